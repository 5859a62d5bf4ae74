/- Own texts, one behind the other: rules of a small program logic, walks through the program's functions, plain facts. No condition. -/
import Derived.Test.YtdbadicpbmndbaaZ5
import Derived.WalkKit
import Derived.ProofKit
import Derived.OpenShut
import Derived.ShutString
import Derived.ChangeOld
import Derived.ChangeSlices
import Derived.Below
import Derived.Carry
import Derived.SizedLaws
/- Rows of things of which some are greater: what the rows' order is. Plain facts; no condition. -/
set_option linter.unusedVariables false
set_option linter.unusedSectionVars false
set_option linter.unusedSimpArgs false
namespace Go.Proofs.Ytdbadicpbmndbaa
section
variable {K : Type} [DecidableEq K]
def rsX : List K → List K → List K
  | [], _ => []
  | t :: r, left => if t ∈ left then rsX r (left.erase t) else t :: rsX r left
theorem rsX_count (x : K) : ∀ (l m : List K), (rsX l m).count x = l.count x - m.count x
  | [], m => by simp [rsX]
  | t :: r, m => by
    simp only [rsX]
    by_cases h : t ∈ m
    · rw [if_pos h, rsX_count x r, List.count_cons, List.count_erase]
      have := List.count_pos_iff.2 h
      by_cases e : t = x
      · subst e; simp; omega
      · simp [e]
    · rw [if_neg h, List.count_cons, rsX_count x r, List.count_cons]
      by_cases e : t = x
      · subst e
        have := List.count_eq_zero.2 h
        simp [this]
      · simp [e]
theorem rsX_in {l m : List K} {x : K} : x ∈ rsX l m ↔ m.count x < l.count x := by
  rw [← List.count_pos_iff, rsX_count]; omega
theorem rsX_nil {l m : List K} : rsX l m = [] ↔ ∀ x, l.count x ≤ m.count x := by
  constructor
  · intro h x
    have : x ∉ rsX l m := by rw [h]; simp
    rw [rsX_in] at this; omega
  · intro h
    cases hq : rsX l m with
    | nil => rfl
    | cons y r =>
      have : y ∈ rsX l m := by rw [hq]; simp
      rw [rsX_in] at this
      have := h y; omega
variable (g : K → K → Bool)
def overX (a b : List K) : Bool := decide (0 < a.length) && b.all fun u => a.any fun t => g t u
def mulX (a b : List K) : Int :=
  if (rsX a b).length + (rsX b a).length = 0 then 0 else if overX g (rsX a b) (rsX b a) = true then 1 else if overX g (rsX b a) (rsX a b) = true then -1 else 2
variable {g}
theorem overX_perm {a b a' b' : List K} (h : a.Perm a') (k : b.Perm b') : overX g a b = overX g a' b' := by
  unfold overX
  rw [h.length_eq]
  congr 1
  rw [Bool.eq_iff_iff, List.all_eq_true, List.all_eq_true]
  constructor
  · intro q u hu
    have := q u (k.mem_iff.2 hu)
    rw [List.any_eq_true] at this ⊢
    obtain ⟨t, ht, he⟩ := this
    exact ⟨t, h.mem_iff.1 ht, he⟩
  · intro q u hu
    have := q u (k.mem_iff.1 hu)
    rw [List.any_eq_true] at this ⊢
    obtain ⟨t, ht, he⟩ := this
    exact ⟨t, h.mem_iff.2 ht, he⟩
theorem rsX_perm {l m l' m' : List K} (h : ∀ x, l.count x - m.count x = l'.count x - m'.count x) : (rsX l m).Perm (rsX l' m') := by
  rw [List.perm_iff_count]; intro x; rw [rsX_count, rsX_count, h]
theorem mulX_perm {a b a' b' : List K} (h : a.Perm a') (k : b.Perm b') : mulX g a b = mulX g a' b' := by
  have h1 : (rsX a b).Perm (rsX a' b') := rsX_perm fun x => by rw [h.count_eq, k.count_eq]
  have h2 : (rsX b a).Perm (rsX b' a') := rsX_perm fun x => by rw [h.count_eq, k.count_eq]
  unfold mulX
  rw [h1.length_eq, h2.length_eq, overX_perm h1 h2, overX_perm h2 h1]
theorem mulX_zero {a b : List K} : mulX g a b = 0 ↔ a.Perm b := by
  have hp : a.Perm b ↔ (rsX a b).length + (rsX b a).length = 0 := by
    rw [List.perm_iff_count]
    constructor
    · intro h
      have e1 := rsX_nil.2 fun x => Nat.le_of_eq (h x)
      have e2 := rsX_nil.2 fun x => Nat.le_of_eq (h x).symm
      rw [e1, e2]; rfl
    · intro h x
      have e1 := rsX_nil.1 (List.eq_nil_of_length_eq_zero (show (rsX a b).length = 0 by omega)) x
      have e2 := rsX_nil.1 (List.eq_nil_of_length_eq_zero (show (rsX b a).length = 0 by omega)) x
      omega
  rw [hp]
  unfold mulX
  by_cases h : (rsX a b).length + (rsX b a).length = 0
  · rw [if_pos h]; simp [h]
  · rw [if_neg h]
    constructor
    · intro q; split at q <;> (try split at q) <;> simp at q
    · intro q; exact absurd q h
theorem mulX_one {a b : List K} : mulX g a b = 1 ↔ overX g (rsX a b) (rsX b a) = true := by
  unfold mulX
  by_cases h : (rsX a b).length + (rsX b a).length = 0
  · rw [if_pos h]
    have : rsX a b = [] := List.eq_nil_of_length_eq_zero (by omega)
    rw [this]; simp [overX]
  · rw [if_neg h]
    by_cases h2 : overX g (rsX a b) (rsX b a) = true
    · rw [if_pos h2]; simp [h2]
    · rw [if_neg h2]
      simp only [h2, iff_false]
      split <;> simp
theorem overX_iff {a b : List K} : overX g (rsX a b) (rsX b a) = true ↔ (∃ x, b.count x < a.count x) ∧ ∀ u, a.count u < b.count u → ∃ t, b.count t < a.count t ∧ g t u = true := by
  unfold overX
  rw [Bool.and_eq_true, decide_eq_true_eq, List.all_eq_true]
  constructor
  · rintro ⟨h1, h2⟩
    refine ⟨?_, fun u hu => ?_⟩
    · obtain ⟨x, hx⟩ := List.exists_mem_of_length_pos h1
      exact ⟨x, rsX_in.1 hx⟩
    · have := h2 u (rsX_in.2 hu)
      rw [List.any_eq_true] at this
      obtain ⟨t, ht, he⟩ := this
      exact ⟨t, rsX_in.1 ht, he⟩
  · rintro ⟨⟨x, hx⟩, h2⟩
    refine ⟨List.length_pos_of_mem (rsX_in.2 hx), fun u hu => ?_⟩
    obtain ⟨t, ht, he⟩ := h2 u (rsX_in.1 hu)
    exact List.any_eq_true.2 ⟨t, rsX_in.2 ht, he⟩
theorem mulX_vals (a b : List K) : mulX g a b = 0 ∨ mulX g a b = 1 ∨ mulX g a b = -1 ∨ mulX g a b = 2 := by
  unfold mulX; split; exact .inl rfl; split; exact .inr (.inl rfl); split; exact .inr (.inr (.inl rfl)); exact .inr (.inr (.inr rfl))
/-- what is greater is so both ways -/
structure OrdX (g : K → K → Bool) (Ok : K → Prop) : Prop where
  irr : ∀ x, g x x = false
  tr : ∀ x y z, Ok x → Ok y → Ok z → g x y = true → g y z = true → g x z = true
theorem countPX_lt {α : Type} {p q : α → Bool} : ∀ {l : List α}, (∀ x ∈ l, p x = true → q x = true) → (∃ x ∈ l, q x = true ∧ p x = false) → l.countP p < l.countP q
  | [], _, h => by obtain ⟨x, hx, _⟩ := h; cases hx
  | y :: r, hpq, h => by
    have hle : r.countP p ≤ r.countP q := List.countP_mono_left fun x hx => hpq x (List.mem_cons_of_mem _ hx)
    have hy := hpq y (List.mem_cons_self ..)
    rw [List.countP_cons, List.countP_cons]
    obtain ⟨x, hx, h1, h2⟩ := h
    rcases List.mem_cons.1 hx with rfl | hx
    · rw [h1, h2]; simp; omega
    · have ih := countPX_lt (l := r) (fun x hx => hpq x (List.mem_cons_of_mem _ hx)) ⟨x, hx, h1, h2⟩
      by_cases e : p y = true
      · rw [e, hy e]; simp; omega
      · simp only [e, Bool.false_eq_true, if_false]; omega
theorem mulX_trans {Ok : K → Prop} (ho : OrdX g Ok) {a b c : List K} (ha : ∀ t ∈ a, Ok t) (hb : ∀ t ∈ b, Ok t) (hc : ∀ t ∈ c, Ok t) (h1 : mulX g a b = 1) (h2 : mulX g b c = 1) : mulX g a c = 1 := by
  rw [mulX_one, overX_iff] at h1 h2 ⊢
  obtain ⟨⟨x1, hx1⟩, h1⟩ := h1
  obtain ⟨⟨x2, hx2⟩, h2⟩ := h2
  have inA : ∀ {x : K} {n : Nat}, n < a.count x → Ok x := fun h => ha _ (List.count_pos_iff.1 (by omega))
  have inB : ∀ {x : K} {n : Nat}, n < b.count x → Ok x := fun h => hb _ (List.count_pos_iff.1 (by omega))
  have inC : ∀ {x : K} {n : Nat}, n < c.count x → Ok x := fun h => hc _ (List.count_pos_iff.1 (by omega))
  have tr := ho.tr
  have key : ∀ (n : Nat) (w : K), (b ++ c).countP (fun t => g t w) ≤ n → (a.count w < b.count w ∨ b.count w < c.count w) → ∃ x, g x w = true ∧ c.count x < a.count x := by
    intro n
    induction n with
    | zero =>
      intro w hn hw
      have hz : ∀ t ∈ b ++ c, ¬ g t w = true := by
        have := List.countP_eq_zero.1 (Nat.le_zero.1 hn)
        intro t ht; simpa using this t ht
      rcases hw with hw | hw
      · obtain ⟨x, hx, hs⟩ := h1 w hw
        refine ⟨x, hs, ?_⟩
        have : c.count x = 0 := List.count_eq_zero.2 fun hm => hz x (List.mem_append_right _ hm) hs
        omega
      · obtain ⟨x, hx, hs⟩ := h2 w hw
        exact absurd hs (hz x (List.mem_append_left _ (List.count_pos_iff.1 (by omega))))
    | succ n ih =>
      intro w hn hw
      have step : ∀ x, g x w = true → Ok x → Ok w → (a.count x < b.count x ∨ b.count x < c.count x) → ∃ y, g y w = true ∧ c.count y < a.count y := by
        intro x hs hx hw2 hS
        have hxm : x ∈ b ++ c := by
          rcases hS with h | h
          · exact List.mem_append_left _ (List.count_pos_iff.1 (by omega))
          · exact List.mem_append_right _ (List.count_pos_iff.1 (by omega))
        have hall : ∀ t ∈ b ++ c, Ok t := fun t ht => by rcases List.mem_append.1 ht with h | h; exact hb t h; exact hc t h
        have hlt : (b ++ c).countP (fun t => g t x) < (b ++ c).countP (fun t => g t w) :=
          countPX_lt (fun t ht h => tr _ _ _ (hall t ht) hx hw2 h hs) ⟨x, hxm, hs, ho.irr x⟩
        obtain ⟨y, hy, hya⟩ := ih x (by omega) hS
        exact ⟨y, tr _ _ _ (inA hya) hx hw2 hy hs, hya⟩
      rcases hw with hw | hw
      · obtain ⟨x, hx, hs⟩ := h1 w hw
        by_cases hS : a.count x < b.count x ∨ b.count x < c.count x
        · exact step x hs (inA hx) (inB hw) hS
        · exact ⟨x, hs, by omega⟩
      · obtain ⟨x, hx, hs⟩ := h2 w hw
        by_cases hS : a.count x < b.count x ∨ b.count x < c.count x
        · exact step x hs (inB hx) (inC hw) hS
        · exact ⟨x, hs, by omega⟩
  refine ⟨?_, fun u hu => ?_⟩
  · by_cases hS : ∃ w, a.count w < b.count w ∨ b.count w < c.count w
    · obtain ⟨w, hw⟩ := hS
      obtain ⟨x, _, hx⟩ := key _ w (Nat.le_refl _) hw
      exact ⟨x, hx⟩
    · have hno : ∀ w, ¬ (a.count w < b.count w ∨ b.count w < c.count w) := fun w h => hS ⟨w, h⟩
      have := hno x1
      exact ⟨x1, by omega⟩
  · obtain ⟨x, hs, hx⟩ := key _ u (Nat.le_refl _) (by omega)
    exact ⟨x, hx, hs⟩
theorem mulX_self (a : List K) : mulX g a a = 0 := mulX_zero.2 (List.Perm.refl _)
theorem mulX_anti {Ok : K → Prop} (ho : OrdX g Ok) {a b : List K} (ha : ∀ t ∈ a, Ok t) (hb : ∀ t ∈ b, Ok t) (h1 : mulX g a b = 1) : mulX g b a = -1 := by
  have h2 : mulX g b a ≠ 1 := fun h => by
    have := mulX_trans ho ha hb ha h1 h
    rw [mulX_self] at this; cases this
  have h3 : mulX g b a ≠ 0 := fun h => by
    have := mulX_zero.1 h
    rw [mulX_zero.2 this.symm] at h1; cases h1
  rw [mulX_one] at h1
  unfold mulX at h2 h3 ⊢
  by_cases e : (rsX b a).length + (rsX a b).length = 0
  · rw [if_pos e] at h3; exact absurd rfl h3
  · rw [if_neg e] at h2 ⊢
    by_cases e2 : overX g (rsX b a) (rsX a b) = true
    · rw [if_pos e2] at h2; exact absurd rfl h2
    · rw [if_neg e2, if_pos h1]
theorem mulX_less {a b : List K} (h : mulX g a b = -1) : mulX g b a = 1 := by
  rw [mulX_one]
  unfold mulX at h
  split at h
  · cases h
  · split at h
    · cases h
    · split at h
      · assumption
      · cases h
/-- one is the greatest -/
theorem topX {Ok : K → Prop} (ho : OrdX g Ok) : ∀ (l : List K), 0 < l.length → (∀ x ∈ l, Ok x) → ∃ m ∈ l, ∀ x ∈ l, g x m = false
  | [x], _, _ => ⟨x, by simp, fun y hy => by simp at hy; subst hy; exact ho.irr _⟩
  | x :: y :: r, _, hk => by
    obtain ⟨m, hm, ht⟩ := topX ho (y :: r) (by simp) (fun z hz => hk z (List.mem_cons_of_mem _ hz))
    by_cases h : g x m = true
    · refine ⟨x, List.mem_cons_self .., fun z hz => ?_⟩
      rcases List.mem_cons.1 hz with rfl | hz
      · exact ho.irr _
      · cases q : g z x
        · rfl
        · have := ho.tr z x m (hk z (List.mem_cons_of_mem _ hz)) (hk x (List.mem_cons_self ..)) (hk m (List.mem_cons_of_mem _ hm)) q h
          rw [ht z hz] at this; cases this
    · refine ⟨m, List.mem_cons_of_mem _ hm, fun z hz => ?_⟩
      rcases List.mem_cons.1 hz with rfl | hz
      · simpa using h
      · exact ht z hz
/-- of any two things one is greater: so of any two rows -/
theorem mulX_total {Ok : K → Prop} (ho : OrdX g Ok) (ht : ∀ x y, Ok x → Ok y → x ≠ y → g x y = true ∨ g y x = true) {a b : List K} (ha : ∀ t ∈ a, Ok t) (hb : ∀ t ∈ b, Ok t) : mulX g a b ≠ 2 := by
  intro h2
  have hne : ¬ ((rsX a b).length + (rsX b a).length = 0) := fun e => by unfold mulX at h2; rw [if_pos e] at h2; cases h2
  have hka : ∀ x ∈ rsX a b, Ok x := fun x hx => ha x (List.count_pos_iff.1 (by have := rsX_in.1 hx; omega))
  have hkb : ∀ x ∈ rsX b a, Ok x := fun x hx => hb x (List.count_pos_iff.1 (by have := rsX_in.1 hx; omega))
  have hk : ∀ x ∈ rsX a b ++ rsX b a, Ok x := fun x hx => by rcases List.mem_append.1 hx with h | h; exact hka x h; exact hkb x h
  obtain ⟨m, hm, hmt⟩ := topX ho (rsX a b ++ rsX b a) (by rw [List.length_append]; omega) hk
  have hdis : ∀ x ∈ rsX a b, x ∉ rsX b a := fun x h1 h2 => by rw [rsX_in] at h1 h2; omega
  have hgt : ∀ x ∈ rsX a b ++ rsX b a, x ≠ m → g m x = true := fun x hx hxm => by
    rcases ht m x (hk m hm) (hk x hx) (fun e => hxm e.symm) with h | h
    · exact h
    · rw [hmt x hx] at h; cases h
  have hmul : overX g (rsX a b) (rsX b a) = true ∨ overX g (rsX b a) (rsX a b) = true := by
    rcases List.mem_append.1 hm with h | h
    · left
      unfold overX
      rw [Bool.and_eq_true, decide_eq_true_eq, List.all_eq_true]
      exact ⟨List.length_pos_of_mem h, fun u hu => List.any_eq_true.2 ⟨m, h, hgt u (List.mem_append_right _ hu) (fun e => hdis m h (e ▸ hu))⟩⟩
    · right
      unfold overX
      rw [Bool.and_eq_true, decide_eq_true_eq, List.all_eq_true]
      exact ⟨List.length_pos_of_mem h, fun u hu => List.any_eq_true.2 ⟨m, h, hgt u (List.mem_append_left _ hu) (fun e => hdis m (e ▸ hu) h)⟩⟩
  unfold mulX at h2
  rw [if_neg hne] at h2
  rcases hmul with h | h
  · rw [if_pos h] at h2; cases h2
  · split at h2
    · cases h2
    · cases h2
/-- one more is greater -/
theorem mulX_more (a : List K) (x : K) : mulX g (a ++ [x]) a = 1 := by
  rw [mulX_one, overX_iff]
  refine ⟨⟨x, by simp⟩, fun u hu => ?_⟩
  rw [List.count_append] at hu; omega
/-- what goes over to greater things, of each greater ones, goes over to greater rows -/
theorem mulX_map {L : Type} [DecidableEq L] {g' : L → L → Bool} {f : K → L} {a b : List K} (hg : ∀ x ∈ a, ∀ y ∈ b, g x y = true → g' (f x) (f y) = true) {Ok : L → Prop} (ho : OrdX g' Ok) (ha : ∀ x ∈ a, Ok (f x)) (hb : ∀ x ∈ b, Ok (f x)) (h : mulX g a b = 1) : mulX g' (a.map f) (b.map f) = 1 := by
  rw [mulX_one] at h
  have hx : ∀ x ∈ rsX a b, x ∈ a := fun x hx => List.count_pos_iff.1 (by have := rsX_in.1 hx; omega)
  have hy : ∀ y ∈ rsX b a, y ∈ b := fun x hx => List.count_pos_iff.1 (by have := rsX_in.1 hx; omega)
  unfold overX at h
  rw [Bool.and_eq_true, decide_eq_true_eq, List.all_eq_true] at h
  -- both without what they share
  have hpa : ∀ (a b : List K), ∃ s, a.Perm (s ++ rsX a b) ∧ b.Perm (s ++ rsX b a) := fun a b => by
    refine ⟨rsX a (rsX a b), ?_, ?_⟩
    · rw [List.perm_iff_count]; intro x; rw [List.count_append, rsX_count, rsX_count]; omega
    · rw [List.perm_iff_count]; intro x; rw [List.count_append, rsX_count, rsX_count, rsX_count]; omega
  obtain ⟨s, hs1, hs2⟩ := hpa a b
  have e1 := hs1.map f
  have e2 := hs2.map f
  rw [mulX_perm e1 e2, mulX_one, overX_iff]
  rw [List.map_append, List.map_append]
  -- counts: what is shared plays no part
  have hcnt : ∀ z, (s.map f ++ (rsX a b).map f).count z < (s.map f ++ (rsX b a).map f).count z → z ∈ (rsX b a).map f := fun z hz => by
    rw [List.count_append, List.count_append] at hz
    exact List.count_pos_iff.1 (by omega)
  -- a greatest one of the left row is in no way taken away
  have hkl : ∀ z ∈ (rsX a b).map f ++ (rsX b a).map f, Ok z := fun z hz => by
    rcases List.mem_append.1 hz with h | h
    · obtain ⟨x, hx', rfl⟩ := List.mem_map.1 h; exact ha x (hx x hx')
    · obtain ⟨x, hx', rfl⟩ := List.mem_map.1 h; exact hb x (hy x hx')
  have hover : ∀ u ∈ (rsX b a).map f, ∃ t ∈ (rsX a b).map f, g' t u = true := fun u hu => by
    obtain ⟨y, hy', rfl⟩ := List.mem_map.1 hu
    have := h.2 y hy'
    rw [List.any_eq_true] at this
    obtain ⟨x, hx', hxy⟩ := this
    exact ⟨f x, List.mem_map_of_mem hx', hg x (hx x hx') y (hy y hy') hxy⟩
  -- above each one of the right row stands one of the left row that is not taken away
  have key : ∀ (n : Nat) (u : L), ((rsX a b).map f ++ (rsX b a).map f).countP (fun t => g' t u) ≤ n → Ok u → (∃ t ∈ (rsX a b).map f, g' t u = true) → ∃ t, (s.map f ++ (rsX b a).map f).count t < (s.map f ++ (rsX a b).map f).count t ∧ g' t u = true := by
    intro n
    induction n with
    | zero =>
      intro u hn _ ⟨t, ht, hgt⟩
      have := List.countP_eq_zero.1 (Nat.le_zero.1 hn) t (List.mem_append_left _ ht)
      exact absurd hgt this
    | succ n ih =>
      intro u hn hu ⟨t, ht, hgt⟩
      by_cases q : (s.map f ++ (rsX b a).map f).count t < (s.map f ++ (rsX a b).map f).count t
      · exact ⟨t, q, hgt⟩
      · have htb : t ∈ (rsX b a).map f := by
          have h1 := List.count_pos_iff.2 ht
          rw [List.count_append, List.count_append] at q
          exact List.count_pos_iff.1 (by omega)
        have hto := hkl t (List.mem_append_left _ ht)
        have hall := hkl
        have hlt : ((rsX a b).map f ++ (rsX b a).map f).countP (fun z => g' z t) < ((rsX a b).map f ++ (rsX b a).map f).countP (fun z => g' z u) :=
          countPX_lt (fun z hz hzt => ho.tr _ _ _ (hall z hz) hto hu hzt hgt) ⟨t, List.mem_append_left _ ht, hgt, ho.irr t⟩
        obtain ⟨w, hw1, hw2⟩ := ih t (by omega) hto (hover t htb)
        have hwo : Ok w := hkl w (List.mem_append_left _ (by
          rw [List.count_append, List.count_append] at hw1
          exact List.count_pos_iff.1 (by omega)))
        exact ⟨w, hw1, ho.tr _ _ _ hwo hto hu hw2 hgt⟩
  refine ⟨?_, fun u hu => ?_⟩
  · obtain ⟨x, hx'⟩ := List.exists_mem_of_length_pos h.1
    obtain ⟨m, hm, hmt⟩ := topX ho ((rsX a b).map f ++ (rsX b a).map f) (by rw [List.length_append, List.length_map]; omega) hkl
    have hmb : m ∉ (rsX b a).map f := fun hmb => by
      obtain ⟨t, ht, hgt⟩ := hover m hmb
      rw [hmt t (List.mem_append_left _ ht)] at hgt; cases hgt
    have hma : m ∈ (rsX a b).map f := by rcases List.mem_append.1 hm with h | h; exact h; exact absurd h hmb
    refine ⟨m, ?_⟩
    rw [List.count_append, List.count_append, List.count_eq_zero.2 hmb]
    have := List.count_pos_iff.2 hma; omega
  · have hub := hcnt u hu
    exact key _ u (Nat.le_refl _) (hkl u (List.mem_append_right _ hub)) (hover u hub)
end
end Go.Proofs.Ytdbadicpbmndbaa
/- Rows of terms: greater than greater is greater; rows of literals. No condition. -/
set_option linter.unusedVariables false
set_option linter.unusedSimpArgs false
set_option linter.unnecessarySimpa false
namespace Go.Proofs.Ytdbadicpbmndbaa
open Go Lg

theorem rsL_in {l m : List T} {x : T} : x ∈ rsL l m ↔ m.count x < l.count x := by
  rw [← List.count_pos_iff, rsL_count]; omega
theorem rsL_nil {l m : List T} : rsL l m = [] ↔ ∀ x, l.count x ≤ m.count x := by
  constructor
  · intro h x
    have : x ∉ rsL l m := by rw [h]; simp
    rw [rsL_in] at this; omega
  · intro h
    cases hq : rsL l m with
    | nil => rfl
    | cons y r =>
      have : y ∈ rsL l m := by rw [hq]; simp
      rw [rsL_in] at this
      have := h y; omega
theorem mulG_zero {gs : List Sy} {a b : List T} : mulG gs a b = 0 ↔ a.Perm b := by
  have hp : a.Perm b ↔ (rsL a b).length + (rsL b a).length = 0 := by
    rw [List.perm_iff_count]
    constructor
    · intro h
      have e1 := rsL_nil.2 fun x => Nat.le_of_eq (h x)
      have e2 := rsL_nil.2 fun x => Nat.le_of_eq (h x).symm
      rw [e1, e2]; rfl
    · intro h x
      have e1 := rsL_nil.1 (List.eq_nil_of_length_eq_zero (show (rsL a b).length = 0 by omega)) x
      have e2 := rsL_nil.1 (List.eq_nil_of_length_eq_zero (show (rsL b a).length = 0 by omega)) x
      omega
  rw [hp]
  unfold mulG
  by_cases h : (rsL a b).length + (rsL b a).length = 0
  · rw [if_pos h]; simp [h]
  · rw [if_neg h]
    constructor
    · intro q; split at q <;> (try split at q) <;> simp at q
    · intro q; exact absurd q h
theorem mulG_one_iff {gs : List Sy} {a b : List T} : mulG gs a b = 1 ↔ overL gs (rsL a b) (rsL b a) = true := by
  unfold mulG
  by_cases h : (rsL a b).length + (rsL b a).length = 0
  · rw [if_pos h]
    have : rsL a b = [] := List.eq_nil_of_length_eq_zero (by omega)
    rw [this]; simp [overL]
  · rw [if_neg h]
    by_cases h2 : overL gs (rsL a b) (rsL b a) = true
    · rw [if_pos h2]; simp [h2]
    · rw [if_neg h2]
      simp only [h2, iff_false]
      split <;> simp
theorem overL_iff {gs : List Sy} {a b : List T} : overL gs (rsL a b) (rsL b a) = true ↔ (∃ x, b.count x < a.count x) ∧ ∀ u, a.count u < b.count u → ∃ t, b.count t < a.count t ∧ stT gs t u = 1 := by
  unfold overL
  rw [Bool.and_eq_true, decide_eq_true_eq, List.all_eq_true]
  constructor
  · rintro ⟨h1, h2⟩
    refine ⟨?_, fun u hu => ?_⟩
    · obtain ⟨x, hx⟩ := List.exists_mem_of_length_pos h1
      exact ⟨x, rsL_in.1 hx⟩
    · have := h2 u (rsL_in.2 hu)
      rw [List.any_eq_true] at this
      obtain ⟨t, ht, he⟩ := this
      exact ⟨t, rsL_in.1 ht, by simpa using he⟩
  · rintro ⟨⟨x, hx⟩, h2⟩
    refine ⟨List.length_pos_of_mem (rsL_in.2 hx), fun u hu => ?_⟩
    obtain ⟨t, ht, he⟩ := h2 u (rsL_in.1 hu)
    exact List.any_eq_true.2 ⟨t, rsL_in.2 ht, by simpa using he⟩
theorem countP_lt {α : Type} {p q : α → Bool} : ∀ {l : List α}, (∀ x ∈ l, p x = true → q x = true) → (∃ x ∈ l, q x = true ∧ p x = false) → l.countP p < l.countP q
  | [], _, h => by obtain ⟨x, hx, _⟩ := h; cases hx
  | y :: r, hpq, h => by
    have hle : r.countP p ≤ r.countP q := List.countP_mono_left fun x hx => hpq x (List.mem_cons_of_mem _ hx)
    have hy := hpq y (List.mem_cons_self ..)
    rw [List.countP_cons, List.countP_cons]
    obtain ⟨x, hx, h1, h2⟩ := h
    rcases List.mem_cons.1 hx with rfl | hx
    · rw [h1, h2]; simp; omega
    · have ih := countP_lt (l := r) (fun x hx => hpq x (List.mem_cons_of_mem _ hx)) ⟨x, hx, h1, h2⟩
      by_cases e : p y = true
      · rw [e, hy e]; simp; omega
      · simp only [e, Bool.false_eq_true, if_false]; omega
theorem mulG_trans {gs : List Sy} {a b c : List T} (ha : ∀ t ∈ a, OkG gs t) (hb : ∀ t ∈ b, OkG gs t) (hc : ∀ t ∈ c, OkG gs t) (h1 : mulG gs a b = 1) (h2 : mulG gs b c = 1) : mulG gs a c = 1 := by
  rw [mulG_one_iff, overL_iff] at h1 h2 ⊢
  obtain ⟨⟨x1, hx1⟩, h1⟩ := h1
  obtain ⟨⟨x2, hx2⟩, h2⟩ := h2
  have inA : ∀ {x : T} {n : Nat}, n < a.count x → OkG gs x := fun h => ha _ (List.count_pos_iff.1 (by omega))
  have inB : ∀ {x : T} {n : Nat}, n < b.count x → OkG gs x := fun h => hb _ (List.count_pos_iff.1 (by omega))
  have inC : ∀ {x : T} {n : Nat}, n < c.count x → OkG gs x := fun h => hc _ (List.count_pos_iff.1 (by omega))
  have tr : ∀ {x y z : T}, OkG gs x → OkG gs y → OkG gs z → stT gs x y = 1 → stT gs y z = 1 → stT gs x z = 1 := fun hx hy hz p q => stT_trans _ _ _ _ (Nat.le_refl _) hx hy hz p q
  have key : ∀ (n : Nat) (w : T), (b ++ c).countP (fun t => decide (stT gs t w = 1)) ≤ n → (a.count w < b.count w ∨ b.count w < c.count w) → ∃ x, stT gs x w = 1 ∧ c.count x < a.count x := by
    intro n
    induction n with
    | zero =>
      intro w hn hw
      have hz : ∀ t ∈ b ++ c, ¬ stT gs t w = 1 := by
        have := List.countP_eq_zero.1 (Nat.le_zero.1 hn)
        intro t ht; simpa using this t ht
      rcases hw with hw | hw
      · obtain ⟨x, hx, hs⟩ := h1 w hw
        refine ⟨x, hs, ?_⟩
        have : c.count x = 0 := List.count_eq_zero.2 fun hm => hz x (List.mem_append_right _ hm) hs
        omega
      · obtain ⟨x, hx, hs⟩ := h2 w hw
        exact absurd hs (hz x (List.mem_append_left _ (List.count_pos_iff.1 (by omega))))
    | succ n ih =>
      intro w hn hw
      have step : ∀ x, stT gs x w = 1 → OkG gs x → OkG gs w → (a.count x < b.count x ∨ b.count x < c.count x) → ∃ y, stT gs y w = 1 ∧ c.count y < a.count y := by
        intro x hs hx hw2 hS
        have hxm : x ∈ b ++ c := by
          rcases hS with h | h
          · exact List.mem_append_left _ (List.count_pos_iff.1 (by omega))
          · exact List.mem_append_right _ (List.count_pos_iff.1 (by omega))
        have hall : ∀ t ∈ b ++ c, OkG gs t := fun t ht => by rcases List.mem_append.1 ht with h | h; exact hb t h; exact hc t h
        have hlt : (b ++ c).countP (fun t => decide (stT gs t x = 1)) < (b ++ c).countP (fun t => decide (stT gs t w = 1)) :=
          countP_lt (fun t ht h => by simp only [decide_eq_true_eq] at h ⊢; exact tr (hall t ht) hx hw2 h hs) ⟨x, hxm, by simpa using hs, by simp [stT_self]⟩
        obtain ⟨y, hy, hya⟩ := ih x (by omega) hS
        exact ⟨y, tr (inA hya) hx hw2 hy hs, hya⟩
      rcases hw with hw | hw
      · obtain ⟨x, hx, hs⟩ := h1 w hw
        by_cases hS : a.count x < b.count x ∨ b.count x < c.count x
        · exact step x hs (inA hx) (inB hw) hS
        · exact ⟨x, hs, by omega⟩
      · obtain ⟨x, hx, hs⟩ := h2 w hw
        by_cases hS : a.count x < b.count x ∨ b.count x < c.count x
        · exact step x hs (inB hx) (inC hw) hS
        · exact ⟨x, hs, by omega⟩
  refine ⟨?_, fun u hu => ?_⟩
  · by_cases hS : ∃ w, a.count w < b.count w ∨ b.count w < c.count w
    · obtain ⟨w, hw⟩ := hS
      obtain ⟨x, _, hx⟩ := key _ w (Nat.le_refl _) hw
      exact ⟨x, hx⟩
    · have hno : ∀ w, ¬ (a.count w < b.count w ∨ b.count w < c.count w) := fun w h => hS ⟨w, h⟩
      have := hno x1
      exact ⟨x1, by omega⟩
  · obtain ⟨x, hs, hx⟩ := key _ u (Nat.le_refl _) (by omega)
    exact ⟨x, hx, hs⟩
theorem perm2 {a b c d : T} : [a, b].Perm [c, d] ↔ (a = c ∧ b = d) ∨ (a = d ∧ b = c) := by
  constructor
  · intro h
    have hm : a ∈ [c, d] := h.mem_iff.1 (by simp)
    simp at hm
    rcases hm with rfl | rfl
    · have := h.cons_inv; simp at this; exact .inl ⟨rfl, this⟩
    · have := (h.trans (List.Perm.swap _ _ _)).cons_inv; simp at this; exact .inr ⟨rfl, this⟩
  · rintro (⟨rfl, rfl⟩ | ⟨rfl, rfl⟩)
    · exact List.Perm.refl _
    · exact List.Perm.swap _ _ _
theorem count4 (a b x : T) : [a, a, b, b].count x = 2 * [a, b].count x := by
  simp only [List.count_cons, List.count_nil]; omega
theorem rowL_perm {x y : Li} : (rowL x).Perm (rowL y) ↔ sameL x y = true := by
  have heq : eqL x y = true ↔ (x.l = y.l ∧ x.r = y.r) ∨ (x.l = y.r ∧ x.r = y.l) := by simp [eqL]
  unfold sameL
  rw [Bool.and_eq_true, heq, beq_iff_eq]
  unfold rowL
  cases hx : x.neg <;> cases hy : y.neg
  · simp only [Bool.false_eq_true, if_false, true_and]; exact perm2
  · simp only [Bool.false_eq_true, if_false, if_true, false_and, iff_false]
    intro h; have := h.length_eq; simp at this
  · simp only [Bool.false_eq_true, if_false, if_true, reduceCtorEq, false_and, iff_false]
    intro h; have := h.length_eq; simp at this
  · simp only [if_true, true_and]
    rw [← perm2, List.perm_iff_count, List.perm_iff_count]
    constructor
    · intro h z; have := h z; rw [count4, count4] at this; omega
    · intro h z; rw [count4, count4, h z]
theorem opp_more {gs : List Sy} {x y : Li} (h : oppL x y = true) (hn : x.neg = true) : mulG gs (rowL x) (rowL y) = 1 := by
  unfold oppL at h
  rw [Bool.and_eq_true] at h
  have hy : y.neg = false := by have := h.1; rw [hn] at this; cases hq : y.neg; rfl; rw [hq] at this; simp at this
  have heq : (x.l = y.l ∧ x.r = y.r) ∨ (x.l = y.r ∧ x.r = y.l) := by simpa [eqL] using h.2
  have hp : [x.l, x.r].Perm [y.l, y.r] := perm2.2 heq
  have hc := List.perm_iff_count.1 hp
  have e1 : rowL x = [x.l, x.l, x.r, x.r] := by unfold rowL; rw [if_pos hn]
  have e2 : rowL y = [y.l, y.r] := by unfold rowL; rw [hy]; simp
  rw [mulG_one_iff, overL_iff, e1, e2]
  refine ⟨⟨x.l, ?_⟩, fun u hu => ?_⟩
  · rw [count4, ← hc]
    have : 0 < [x.l, x.r].count x.l := List.count_pos_iff.2 (by simp)
    omega
  · rw [count4, ← hc] at hu; omega
end Go.Proofs.Ytdbadicpbmndbaa
/- Clauses compared: plainly, and walks. -/
set_option linter.unusedVariables false
set_option linter.unusedSimpArgs false
set_option linter.unnecessarySimpa false
/- short -/
namespace Go.Proofs.Ytdbadicpbmndbaa
open Go Lg

/-! ### plain: a literal with its sides in order -/
def canL (x : Li) : Li := if cmpT x.l x.r = 1 then ⟨x.neg, x.r, x.l⟩ else x
theorem canL_same (x : Li) : sameL x (canL x) = true := by
  unfold canL
  split
  · exact sameL_iff.2 ⟨rfl, .inr ⟨rfl, rfl⟩⟩
  · exact sameL_refl x
theorem canL_eq {x y : Li} : canL x = canL y ↔ sameL x y = true := by
  constructor
  · intro h; exact sameL_trans (canL_same x) (h ▸ sameL_symm (canL_same y))
  · intro h
    obtain ⟨h1, h2⟩ := sameL_iff.1 h
    obtain ⟨xn, xl, xr⟩ := x
    obtain ⟨yn, yl, yr⟩ := y
    simp only at h1 h2
    subst h1
    rcases h2 with ⟨rfl, rfl⟩ | ⟨rfl, rfl⟩
    · rfl
    · have hn := cmpT_neg xl xr
      have hr := cmpT_range xl xr
      unfold canL
      simp only
      by_cases c1 : cmpT xl xr = 1
      · rw [if_pos c1, if_neg (by omega)]
      · by_cases c2 : cmpT xr xl = 1
        · rw [if_neg c1, if_pos c2]
        · have : cmpT xl xr = 0 := by omega
          have e := (cmpT_eq _ _).1 this
          subst e; rfl
theorem canL_neg (x : Li) : (canL x).neg = x.neg := by unfold canL; split <;> rfl
/-- one is greater -/
def gtL (gs : List Sy) (x y : Li) : Bool := decide (mulG gs (rowL x) (rowL y) = 1)
theorem mulG_permX {gs : List Sy} {a b a' b' : List T} (h : a.Perm a') (k : b.Perm b') : mulG gs a b = mulG gs a' b' :=
  mulG_perm (rsL_perm fun x => by rw [h.count_eq, k.count_eq]) (rsL_perm fun x => by rw [h.count_eq, k.count_eq])
theorem mulG_can (gs : List Sy) (x y : Li) : mulG gs (rowL (canL x)) (rowL (canL y)) = mulG gs (rowL x) (rowL y) :=
  mulG_permX (rowL_perm.2 (sameL_symm (canL_same x))) (rowL_perm.2 (sameL_symm (canL_same y)))
theorem gtL_can (gs : List Sy) (x y : Li) : gtL gs (canL x) (canL y) = gtL gs x y := by unfold gtL; rw [mulG_can]
def OkL (gs : List Sy) (x : Li) : Prop := OkG gs x.l ∧ OkG gs x.r
theorem OkL.row {gs : List Sy} {x : Li} (h : OkL gs x) : ∀ t ∈ rowL x, OkG gs t := fun t ht => by
  rcases rowL_mem ht with rfl | rfl
  · exact h.1
  · exact h.2
theorem OkL.can {gs : List Sy} {x : Li} (h : OkL gs x) : OkL gs (canL x) := by
  unfold canL
  split
  · exact ⟨h.2, h.1⟩
  · exact h
theorem gtL_ord (gs : List Sy) : OrdX (gtL gs) (OkL gs) where
  irr := fun x => by
    have : mulG gs (rowL x) (rowL x) = 0 := mulG_zero.2 (List.Perm.refl _)
    unfold gtL; rw [this]; rfl
  tr := fun x y z hx hy hz h k => by
    unfold gtL at *
    rw [decide_eq_true_eq] at *
    exact mulG_trans hx.row hy.row hz.row h k
def cmpC (gs : List Sy) (c d : List Li) : Int := mulX (gtL gs) (c.map canL) (d.map canL)
theorem eraseIdx_first {α : Type} [DecidableEq α] {x : α} : ∀ {l : List α} {j : Nat} (hj : j < l.length), l[j] = x → (∀ i (h : i < l.length), i < j → l[i] ≠ x) → l.eraseIdx j = l.erase x
  | y :: r, 0, hj, h, _ => by
    simp only [List.getElem_cons_zero] at h
    subst h; simp
  | y :: r, j + 1, hj, h, hn => by
    have h0 : y ≠ x := hn 0 (by simp) (by omega)
    have ih := eraseIdx_first (l := r) (j := j) (by simpa using hj) (by simpa using h) (fun i hi hij => by have := hn (i + 1) (by simpa using hi) (by omega); simpa using this)
    rw [List.eraseIdx_cons_succ, ih, List.erase_cons, if_neg (by simpa using h0)]
theorem eraseIdx_mapX {α β : Type} (f : α → β) : ∀ (l : List α) (j : Nat), (l.map f).eraseIdx j = (l.eraseIdx j).map f
  | [], j => by simp
  | x :: r, 0 => by simp
  | x :: r, j + 1 => by simp [eraseIdx_mapX f r j]
/-! ### walks -/
theorem DeleteC_does {I : Imm} {n i c : Nat} {A : Option Addr} {xs : List Value} (hi : i < n) (hb : n ≤ 1000000000) (h1 : ∀ u ∈ xs, u.oneCell' = true) :
    Does Try.prog 57 [.slice A n c, .int .i64 i, .int .i64 ((i : Int) + 1)] I [cRow A c n xs] (fun v _ δ' => v = .slice A (n - 1) c ∧ δ' = [cRow A c (n - 1) (xs.take (i * 5) ++ (xs.drop ((i + 1) * 5)).take ((n - (i + 1)) * 5))]) := by
  have e1 : (i : Int) + 1 = ((i + 1 : Nat) : Int) := by omega
  have e2 : i + (n - (i + 1)) = n - 1 := by omega
  rw [e1]
  refine Does.intro Try.func57 rfl Try.ntmps57 rfl fun w0 => ?_
  refine code_seq ?_
  refine code_region ?_
  refine op_v (v_assign rfl) rfl ?_
  refine ops_nil ?_
  refine post_next ?_
  refine code_seq ?_
  refine code_region ?_
  refine OpsJ.rowSome Has.here (by omega) (fun hA hcr => ?_)
  refine op_v (v_move rfl) rfl ?_
  refine op_v (v_move rfl) rfl ?_
  refine op_v (v_move rfl) rfl ?_
  refine op_v (v_move rfl) rfl ?_
  refine op_v (v_len Try.underlying26 rfl) rfl ?_
  refine op_v (v_slice3 Try.underlying26 sz49 rfl rfl rfl rfl (by omega) (by omega) (by omega)) rfl ?_
  refine ops_nil ?_
  refine post_next ?_
  refine code_seq ?_
  refine code_seq ?_
  refine code_region ?_
  refine op_v (v_move rfl) rfl ?_
  refine op_v (v_move rfl) rfl ?_
  refine op_v (v_cmpf rfl rfl rfl (by omega)) rfl ?_
  refine ops_nil ?_
  refine post_next ?_
  refine code_cond_f rfl ?_
  refine code_skip ?_
  refine post_next ?_
  refine code_seq ?_
  refine code_region ?_
  refine op_v (v_move rfl) rfl ?_
  refine op_v (v_len Try.underlying26 rfl) rfl ?_
  refine op_v (v_assign rfl) rfl ?_
  refine ops_nil ?_
  refine post_next ?_
  refine code_seq ?_
  refine code_draw (.fl 0 (.fl 1 (.fl 2 (.fl 3 (.fl 4 (.fl 5 (.ef 6 (.ef 7 .done)))))))) (fun _ => []) mixed (by kernel_rfl) (by kernel_rfl) (fun _ => (List.nil_sublist _)) ?_
  refine e_float rfl rfl (fun hs_ => PF.mk rfl (v_move rfl) hs_) Imm.leA (by intro x hx; cases hx) ?_
  refine e_float rfl rfl (fun hs_ => PF.mk rfl (v_move rfl) hs_) Imm.leA (by intro x hx; cases hx) ?_
  refine e_float rfl rfl (fun hs_ => PF.mk rfl (v_sliceTo Try.underlying26 sz49 rfl rfl (by omega)) hs_) Imm.leA (by intro x hx; cases hx) ?_
  refine e_float rfl rfl (fun hs_ => PF.mk rfl (v_move rfl) hs_) Imm.leA (by intro x hx; cases hx) ?_
  refine e_float rfl rfl (fun hs_ => PF.mk rfl (v_move rfl) hs_) Imm.leA (by intro x hx; cases hx) ?_
  refine e_float rfl rfl (fun hs_ => PF.mk rfl (v_sliceFrom Try.underlying26 sz49 rfl rfl (by omega) (by omega)) hs_) Imm.leA (by intro x hx; cases hx) ?_
  refine e_eff rfl (by intro cs b hc; cases hc) (by intro c hc; cases hc) ?_
  refine o_appendSelf Try.underlying26 bs49 rfl rfl rfl Swap.here (by omega) (by omega) (by omega) h1 (by omega) (by omega) hA ?_
  refine ops_nil ?_
  refine e_next rfl (side_all Imm.leA (fun _ => (by intro x hx; cases hx))) ?_
  refine e_eff rfl (by intro cs b hc; cases hc) (by intro c hc; cases hc) ?_
  refine op_v (v_assign rfl) rfl ?_
  refine ops_nil ?_
  refine e_next rfl (side_nil (by kernel_rfl)) ?_
  refine e_done ?_
  refine post_next ?_
  refine code_seq ?_
  refine code_region ?_
  rw [e2]
  refine op_v (v_move rfl) rfl ?_
  refine op_v (v_move rfl) rfl ?_
  refine op_v (v_len Try.underlying26 rfl) rfl ?_
  refine op_v (v_move rfl) rfl ?_
  refine op_v (v_slice2 Try.underlying26 sz49 rfl rfl rfl (by omega) (by omega)) rfl ?_
  refine o_clear Try.underlying26 (by kernel_rfl) (z := .agg #[.bool false, .int .i64 0, .slice none 0 0, .int .i64 0, .slice none 0 0]) (by rfl) (by rfl) rfl Has.here (by omega) ?_
  refine ops_nil ?_
  refine post_next ?_
  refine code_seq ?_
  refine code_region ?_
  refine op_v (v_move rfl) rfl ?_
  refine op_v (v_assign rfl) rfl ?_
  refine ops_nil ?_
  refine post_next ?_
  refine code_ret ?_
  refine post_ret (rs := [.tmp 6]) rfl (List.Perm.refl _) (.cons (.tmp rfl) .nil) (List.Sublist.refl _) ?_
  exact ⟨rfl, rfl⟩
theorem RowE.del {n : Nat} {α : Type} {E : Elt n α} {I : Imm} {xs : List Value} {al : List α} {i : Nat} (h : RowE E I xs al) (hi : i < al.length) : RowE E I (xs.take (i * n) ++ (xs.drop ((i + 1) * n)).take ((al.length - (i + 1)) * n)) (al.eraseIdx i) := by
  rw [List.eraseIdx_eq_take_drop_succ]
  refine (h.take i (by omega)).app ?_
  have h2 := h.drop (i + 1) (by omega)
  rw [List.take_of_length_le (by rw [h2.length, List.length_drop]; exact Nat.le_refl _)]
  exact h2
theorem rest1C_does {I : Imm} {b b2 : Nat} {x y : Li} {ux uy : List Value} (hx : LitE.R I x ux) (hy : LitE.R I y uy) (h1 : x.l.size ≤ 1000000000) (h2 : x.r.size ≤ 1000000000) (h3 : y.l.size ≤ 1000000000) (h4 : y.r.size ≤ 1000000000) :
    Does Try.prog 125 [.agg uy.toArray, .pointer (some ⟨b, 0, none⟩), .pointer (some ⟨b2, 0, none⟩)] I [.box b 44 [.func (.func 32) #[] #[]], .box b2 49 ux] (fun v _ δ' => v = .bool (sameL x y) ∧ δ' = [.box b 44 [.func (.func 32) #[] #[]], .box b2 49 ux]) := by
  have hx0 := lit_row hx
  have hy0 := lit_row hy
  obtain ⟨la, lc, ra, rc, rfl, _, _⟩ := hx
  obtain ⟨ma, mc, na, nc, rfl, _, _⟩ := hy
  refine Does.intro Try.func125 rfl Try.ntmps125 rfl fun w0 => ?_
  refine code_seq ?_
  refine code_region ?_
  refine o_box rfl rfl rfl (fun b3 => ?_)
  refine op_v (v_assign rfl) rfl ?_
  refine ops_nil ?_
  refine post_next ?_
  refine code_seq ?_
  refine code_region ?_
  refine op_v (v_loadA ty44 rfl rfl) rfl ?_
  refine op_v (v_loadA ty49 rfl rfl) rfl ?_
  refine op_v (v_loadA ty49 rfl rfl) rfl ?_
  refine op_fcall rfl rfl rfl ((Does.toF (args := [_, _]) pl32 (LSame_does hx0 hy0 h1 h2 h3 h4))) Parts.none ?_
  rintro v8 I8 _ hI8 ⟨rfl, rfl⟩
  refine op_v (v_assign rfl) rfl ?_
  refine ops_nil ?_
  refine post_next ?_
  refine code_ret ?_
  refine post_ret (rs := [.tmp 4]) rfl (List.Perm.refl _) (.cons (.tmp rfl) .nil) (List.sublist_cons_self _ _) ?_
  exact ⟨rfl, rfl⟩
theorem canL_mem {x : Li} {l : List Li} : canL x ∈ l.map canL ↔ l.any (fun m => sameL x m) = true := by
  rw [List.mem_map, List.any_eq_true]
  constructor
  · rintro ⟨m, hm, e⟩; exact ⟨m, hm, canL_eq.1 e.symm⟩
  · rintro ⟨m, hm, e⟩; exact ⟨m, hm, (canL_eq.2 e).symm⟩
theorem restC_does {I : Imm} {va vb : Value} {a b : List Li} (ha : RepC I va a) (hb : RepC I vb b) (hsa : SmC a) (hsb : SmC b) (hla : a.length ≤ 1000000) (hlb : b.length ≤ 1000000) :
    Does Try.prog 88 [va, vb, .func (.func 32) #[] #[]] I [] (fun v I' δ' => (∃ O, RepC I' v O ∧ O.map canL = rsX (a.map canL) (b.map canL) ∧ (∀ x ∈ O, x ∈ a) ∧ O.length ≤ a.length) ∧ δ' = []) := by
  obtain ⟨ad, ac, xa, rfl, hca, hba, hcella, hrowa⟩ := ha
  refine Does.intro Try.func88 rfl Try.ntmps88 rfl fun w0 => ?_
  refine code_seq ?_
  refine code_region ?_
  refine o_box rfl rfl rfl (fun b5 => ?_)
  refine op_v (v_assign rfl) rfl ?_
  refine ops_nil ?_
  refine post_next ?_
  refine code_seq ?_
  refine code_region ?_
  refine op_v (v_move rfl) rfl ?_
  refine op_call pl58 rfl rfl ((CloneC_does hb)) Parts.none ?_
  rintro v13 I13 _ hI13 ⟨la, lc, xb, rfl, hrowb, rfl⟩
  refine op_v (v_assign rfl) rfl ?_
  refine ops_nil ?_
  refine post_next ?_
  refine code_seq ?_
  refine code_region ?_
  refine op_v (v_assign rfl) rfl ?_
  refine ops_nil ?_
  refine post_next ?_
  refine code_seq ?_
  refine code_seq ?_
  refine code_region ?_
  refine op_v (v_move rfl) rfl ?_
  refine op_v (v_len Try.underlying26 rfl) rfl ?_
  refine op_v (v_move rfl) rfl ?_
  refine ops_nil ?_
  refine post_next ?_
  refine code_block ?_
  refine CodeJ.view (View.nilRow 49 5) ?_
  refine code_loop (fun m σ' I' δ' => ∃ (k : Nat) (L O : List Li) (A B : Option Addr) (c e : Nat) (xs ys : List Value), m = a.length - k ∧ k ≤ a.length ∧ σ' = [(5, .pointer (some ⟨b5, 0, none⟩)), (7, .slice A L.length c), (8, .slice B O.length e), (14, .slice ad a.length ac), (15, .int .i64 a.length), (16, .int .i64 k)] ∧ I13.le I' ∧ δ' = [cRow B e O.length ys, cRow A c L.length xs, .box b5 44 [.func (.func 32) #[] #[]]] ∧ RowE LitE I' xs L ∧ RowE LitE I' ys O ∧ rsX (a.map canL) (b.map canL) = O.map canL ++ rsX ((a.drop k).map canL) (L.map canL) ∧ O.length ≤ k ∧ L.length ≤ b.length ∧ (∀ t ∈ L, t ∈ b) ∧ ∀ t ∈ O, t ∈ a) a.length [(5, .pointer (some ⟨b5, 0, none⟩)), (7, .slice la b.length lc), (8, .slice none 0 0), (14, .slice ad a.length ac), (15, .int .i64 a.length), (16, .int .i64 (0 : Nat))] ⟨0, b, [], la, none, lc, 0, _, [], rfl, Nat.zero_le _, rfl, Imm.le_refl _, rfl, hrowb, rfl, rfl, Nat.zero_le _, Nat.le_refl _, fun _ h => h, fun _ h => by cases h⟩ ⟨rfl, rfl, rfl, rfl, rfl, rfl, trivial⟩ ?_
  rintro m _ I0 _ ⟨k, L, O, A, B, c, e, xs, ys, rfl, hk, rfl, hI0, rfl, hx, hy, hst, hO, hL, hLb, hOa⟩
  have hle0 : I.le I0 := Imm.leA
  refine code_seq ?_
  refine code_region ?_
  first | refine op_v (v_cmptA rfl rfl rfl) rfl ?_ | refine op_v (v_cmpfA rfl rfl rfl) rfl ?_ | refine op_v (v_cmp rfl rfl rfl) rfl ?_
  refine ops_nil ?_
  refine post_next ?_
  refine code_seq ?_
  refine code_cond rfl (fun hc0 => ?_) (fun hc0 => ?_)
  · have hlt : k < a.length := by simpa using hc0
    obtain ⟨vs, ⟨ka, kc, ma, mc, rfl, hl, hr⟩, hat⟩ := hrowa.cellsAt hcella hlt
    have hs1 := hat.isSome
    have hsk := hsa.at hlt
    rw [List.drop_eq_getElem_cons hlt, List.map_cons, rsX] at hst
    refine code_skip ?_
    refine post_next ?_
    refine code_seq ?_
    refine code_block ?_
    refine code_seq ?_
    refine code_region ?_
    first | refine op_v (v_indexA Try.underlying26 sz49 rfl rfl) rfl ?_ | refine op_v (v_indexIA Try.underlying26 sz49 rfl rfl) rfl ?_
    first | refine op_v (v_loadI0 ty49 (hat.mono hle0) rfl rfl rfl) rfl ?_ | refine op_v (v_loadI ty49 (hat.mono hle0) rfl rfl rfl) rfl ?_
    refine o_alloc z49 rfl rfl (fun b10 => ?_)
    refine o_store ty49 rfl rfl rfl rfl rfl (by repeat (first | exact Swap.here | apply Swap.there)) rfl ?_
    refine ops_nil ?_
    refine post_next ?_
    refine code_seq ?_
    refine code_region ?_
    refine op_v (v_move rfl) rfl ?_
    refine op_v (v_makeFunc rfl rfl) rfl ?_
    refine op_call pl116 rfl rfl ((IdxR_doesC (c := L) (p := fun u => sameL a[k] u) hx (by omega) (fun J y u hJ hu hy => FDoes.ofFunc (args := [_]) (caps := [_, _]) pl125 (rest1C_does (b := b5) (b2 := b10) (LitE.mono (Imm.le_trans hle0 hJ) ⟨ka, kc, ma, mc, rfl, hl, hr⟩) hu hsk.1 hsk.2 (hsb y (hLb y hy)).1 (hsb y (hLb y hy)).2)))) (Parts.three (Del.there (Del.there Del.here)) (Del.there (Del.there Del.here)) Del.here) ?_
    rintro v22 I22 _ hI22 ⟨⟨n22, rfl, hn22⟩, rfl⟩
    refine op_v (v_assign rfl) rfl ?_
    refine ops_nil ?_
    refine post_next ?_
    refine code_seq ?_
    refine code_seq ?_
    refine code_region ?_
    refine op_v (v_move rfl) rfl ?_
    rcases hn22 with ⟨rfl, hany⟩ | ⟨j, hj, rfl, hp, hno⟩
    · rw [if_neg (fun h => by rw [canL_mem.1 h] at hany; cases hany)] at hst
      first | refine op_v (v_cmptA rfl rfl rfl) rfl ?_ | refine op_v (v_cmpfA rfl rfl rfl) rfl ?_ | refine op_v (v_cmp rfl rfl rfl) rfl ?_
      refine ops_nil ?_
      refine post_next ?_
      refine code_cond_t rfl ?_
      refine code_seq ?_
      refine code_region ?_
      refine op_v (v_move rfl) rfl ?_
      refine op_v (v_loadA ty49 rfl rfl) rfl ?_
      refine o_buildSlice (xs := [(Go.Operand.tmp 26)]) Try.underlying26 bs49 rfl rfl rfl rfl rfl (fun b27 => ?_)
      refine o_append Try.underlying26 bs49 rfl rfl rfl (fun v' => by repeat (first | exact Swap.here | apply Swap.there)) (Src.ofRow (by repeat (first | exact Has.here | apply Has.there)) rfl) (by first | rfl | omega | simp) (by simp [cat, cellsL, Value.oneCell']) (by omega) (by omega) (fun a28 c28 => ?_)
      have hl2 : O.length + 1 = (O ++ [a[k]]).length := by simp
      refine op_v (v_assign rfl) rfl ?_
      refine ops_nil ?_
      refine post_next ?_
      refine code_exit ?_
      refine post_exit_then ?_
      refine post_exit ?_
      refine post_next ?_
      refine code_region ?_
      first | refine op_v (v_addb rfl rfl rfl (by omega)) rfl ?_ | refine op_v (v_add rfl rfl) rfl ?_
      refine op_v (v_move rfl) rfl ?_
      refine ops_nil ?_
      refine PostJ.view ((View.drop Del.here).trans ((View.drop (Del.there (Del.there Del.here))).trans (View.perm (List.perm_append_comm (l₁ := [_, _]))))) ?_
      refine post_again (a.length - (k + 1)) [(5, .pointer (some ⟨b5, 0, none⟩)), (7, .slice A L.length c), (8, .slice a28 (O.length + 1) c28), (14, .slice ad a.length ac), (15, .int .i64 a.length), (16, .int .i64 (k + 1 : Nat))] (by omega) ⟨k + 1, L, O ++ [a[k]], A, a28, c, c28, xs, ys ++ liC a[k] ka kc ma mc, rfl, hlt, by rw [hl2], Imm.leA, by simp only [cRow, ← hl2]; rfl, hx.mono Imm.leA, (hy.mono Imm.leA).app (RowE.single ⟨ka, kc, ma, mc, rfl, hl.mono Imm.leA, hr.mono Imm.leA⟩), by rw [hst]; simp, by rw [← hl2]; omega, hL, hLb, fun t ht => by rcases List.mem_append.1 ht with h | h; exact hOa t h; simp at h; subst h; exact List.getElem_mem hlt⟩ ⟨rfl, rfl, rfl, rfl, rfl, rfl, trivial⟩
    · rw [if_pos (canL_mem.2 (List.any_eq_true.2 ⟨L[j], List.getElem_mem hj, hp⟩))] at hst
      have hers : (L.map canL).erase (canL a[k]) = (L.eraseIdx j).map canL := by
        rw [← eraseIdx_first (l := L.map canL) (j := j) (by simpa using hj) (by simp only [List.getElem_map]; exact (canL_eq.2 hp).symm) (fun i hi hij => by
          simp only [List.getElem_map]; intro q
          have h1 := List.any_eq_false.1 hno (L[i]'(by simpa using hi)) (List.mem_take_iff_getElem.2 ⟨i, by omega, rfl⟩)
          exact h1 (canL_eq.1 q.symm)), eraseIdx_mapX]
      rw [hers] at hst
      have hlen : L.length - 1 = (L.eraseIdx j).length := by rw [List.length_eraseIdx]; simp [hj]
      first | refine op_v (v_cmptA rfl rfl rfl) rfl ?_ | refine op_v (v_cmpfA rfl rfl rfl) rfl ?_ | refine op_v (v_cmp rfl rfl rfl) rfl ?_
      refine ops_nil ?_
      refine post_next ?_
      refine code_cond_f rfl ?_
      refine code_skip ?_
      refine post_next ?_
      refine code_region ?_
      refine op_v (v_move rfl) rfl ?_
      refine op_v (v_move rfl) rfl ?_
      refine op_v (v_move rfl) rfl ?_
      first | refine op_v (v_addb rfl rfl rfl (by omega)) rfl ?_ | refine op_v (v_add rfl rfl) rfl ?_
      refine op_call pl57 rfl rfl ((DeleteC_does hj (by omega) hx.one1)) (Parts.one Del.here) ?_
      rintro v33 I33 _ hI33 ⟨rfl, rfl⟩
      refine op_v (v_assign rfl) rfl ?_
      refine ops_nil ?_
      refine post_out ?_
      refine post_next ?_
      refine code_region ?_
      first | refine op_v (v_addb rfl rfl rfl (by omega)) rfl ?_ | refine op_v (v_add rfl rfl) rfl ?_
      refine op_v (v_move rfl) rfl ?_
      refine ops_nil ?_
      refine PostJ.view ((View.drop (Del.there (Del.there Del.here))).trans (View.perm (List.perm_append_comm (l₁ := [_, _])))) ?_
      refine post_again (a.length - (k + 1)) [(5, .pointer (some ⟨b5, 0, none⟩)), (7, .slice A (L.length - 1) c), (8, .slice B O.length e), (14, .slice ad a.length ac), (15, .int .i64 a.length), (16, .int .i64 (k + 1 : Nat))] (by omega) ⟨k + 1, L.eraseIdx j, O, A, B, c, e, _, ys, rfl, hlt, by rw [hlen], Imm.leA, by simp only [cRow, ← hlen]; rfl, (hx.mono Imm.leA).del hj, hy.mono Imm.leA, hst, by omega, by rw [← hlen]; omega, fun t ht => hLb t (List.mem_of_mem_eraseIdx ht), hOa⟩ ⟨rfl, rfl, rfl, rfl, rfl, rfl, trivial⟩
  · have hge : k = a.length := by simp at hc0; omega
    refine code_exit ?_
    refine post_exit_then ?_
    refine post_exit_then ?_
    refine post_exit ?_
    refine post_next ?_
    refine code_seq ?_
    refine code_region ?_
    refine OpsJ.freezeRow Del.here ?_
    rintro I35 A35 c35 hI35 hvr hcr hlr hcells35
    cases hvr
    rw [hge, List.drop_length] at hst
    refine op_v (v_move rfl) rfl ?_
    refine op_v (v_assign rfl) rfl ?_
    refine ops_nil ?_
    refine post_next ?_
    refine code_ret ?_
    refine post_ret (rs := [.tmp 6]) rfl (List.Perm.refl _) (.cons (.tmp rfl) .nil) (List.nil_sublist _) ?_
    exact ⟨⟨O, ⟨_, _, ys, rfl, hcr, by omega, hcells35, hy.mono hI35⟩, by rw [hst]; simp [rsX], hOa, by omega⟩, rfl⟩
abbrev LitLit (P : Program) (fv : Value) (I : Imm) (δm : List Ent) (a b : List Li) (q : Li → Li → Bool) : Prop := ∀ J x y ux uy, I.le J → LitE.R J x ux → LitE.R J y uy → x ∈ a → y ∈ b → FDoes P fv [.agg ux.toArray, .agg uy.toArray] J δm (fun v _ δ' => v = .bool (q x y) ∧ δ' = δm)
theorem over1C_does {I : Imm} {fv : Value} {b5 b8 : Nat} {δm : List Ent} {a b : List Li} {q : Li → Li → Bool} {x y : Li} {ux uy : List Value} (hm : LitLit Try.prog fv I δm a b q) (hx : LitE.R I x ux) (hy : LitE.R I y uy) (hxa : x ∈ a) (hyb : y ∈ b) :
    Does Try.prog 126 [.agg ux.toArray, .pointer (some ⟨b5, 0, none⟩), .pointer (some ⟨b8, 0, none⟩)] I (.box b8 49 uy :: .box b5 44 [fv] :: δm) (fun v _ δ' => v = .bool (q x y) ∧ δ' = .box b8 49 uy :: .box b5 44 [fv] :: δm) := by
  have hx0 := hx
  have hy0 := hy
  obtain ⟨la, lc, ra, rc, rfl, _, _⟩ := hx
  obtain ⟨ma, mc, na, nc, rfl, _, _⟩ := hy
  refine Does.intro Try.func126 rfl Try.ntmps126 rfl fun w0 => ?_
  refine code_seq ?_
  refine code_region ?_
  refine o_box rfl rfl rfl (fun b3 => ?_)
  refine op_v (v_assign rfl) rfl ?_
  refine ops_nil ?_
  refine post_next ?_
  refine code_seq ?_
  refine code_region ?_
  refine op_v (v_loadA ty44 rfl rfl) rfl ?_
  refine op_v (v_loadA ty49 rfl rfl) rfl ?_
  refine op_v (v_loadA ty49 rfl rfl) rfl ?_
  refine op_fcall rfl rfl rfl ((hm _ x y _ _ (Imm.le_refl _) hx0 hy0 hxa hyb)) (List.perm_append_comm (l₁ := [_, _, _])) ?_
  rintro v8 I8 _ hI8 ⟨rfl, rfl⟩
  refine OpsJ.view (View.perm (List.perm_append_comm (l₂ := [_, _, _]))) ?_
  refine op_v (v_assign rfl) rfl ?_
  refine ops_nil ?_
  refine post_next ?_
  refine code_ret ?_
  refine post_ret (rs := [.tmp 4]) rfl (List.Perm.refl _) (.cons (.tmp rfl) .nil) (List.sublist_cons_self _ _) ?_
  exact ⟨rfl, rfl⟩
theorem overC_does {I : Imm} {va vb fv : Value} {a b : List Li} {δm : List Ent} {q : Li → Li → Bool} (hfc : cellsL fv = [fv]) (ha : RepC I va a) (hb : RepC I vb b) (hm : LitLit Try.prog fv I δm a b q) :
    Does Try.prog 90 [va, vb, fv] I δm (fun v I' δ' => v = .bool ((b.all fun y => a.any fun x => q x y) && decide (0 < a.length)) ∧ δ' = δm) := by
  obtain ⟨a0, c0, hsh⟩ := RepE.shape ha
  subst hsh
  obtain ⟨bd, bc, xb, rfl, hcb, hbb, hcellb, hrowb⟩ := hb
  refine Does.intro Try.func90 rfl Try.ntmps90 rfl fun w0 => ?_
  refine code_seq ?_
  refine code_region ?_
  refine o_box rfl rfl rfl (fun b5 => ?_)
  refine op_v (v_assign rfl) rfl ?_
  refine ops_nil ?_
  refine post_next ?_
  refine code_seq ?_
  refine code_seq ?_
  refine code_region ?_
  refine op_v (v_move rfl) rfl ?_
  refine op_v (v_len Try.underlying26 rfl) rfl ?_
  refine op_v (v_move rfl) rfl ?_
  refine ops_nil ?_
  refine post_next ?_
  refine code_block ?_
  rw [hfc]
  refine code_loop (fun m σ' I' δ' => ∃ k : Nat, m = b.length - k ∧ k ≤ b.length ∧ σ' = [(0, .slice a0 a.length c0), (5, .pointer (some ⟨b5, 0, none⟩)), (9, .slice bd b.length bc), (10, .int .i64 b.length), (11, .int .i64 k)] ∧ I.le I' ∧ δ' = .box b5 44 [fv] :: δm ∧ (b.take k).all (fun y => a.any fun x => q x y) = true) b.length [(0, .slice a0 a.length c0), (5, .pointer (some ⟨b5, 0, none⟩)), (9, .slice bd b.length bc), (10, .int .i64 b.length), (11, .int .i64 (0 : Nat))] ⟨0, rfl, Nat.zero_le _, rfl, Imm.le_refl _, rfl, rfl⟩ ⟨rfl, rfl, rfl, rfl, rfl, trivial⟩ ?_
  rintro m _ I0 _ ⟨k, rfl, hk, rfl, hI0, rfl, hall⟩
  refine code_seq ?_
  refine code_region ?_
  first | refine op_v (v_cmptA rfl rfl rfl) rfl ?_ | refine op_v (v_cmpfA rfl rfl rfl) rfl ?_ | refine op_v (v_cmp rfl rfl rfl) rfl ?_
  refine ops_nil ?_
  refine post_next ?_
  refine code_seq ?_
  refine code_cond rfl (fun hc0 => ?_) (fun hc0 => ?_)
  · have hlt : k < b.length := by simpa using hc0
    obtain ⟨vs, ⟨ka, kc, ma, mc, rfl, hl, hr⟩, hat⟩ := hrowb.cellsAt hcellb hlt
    have hs1 := hat.isSome
    refine code_skip ?_
    refine post_next ?_
    refine code_seq ?_
    refine code_block ?_
    refine code_seq ?_
    refine code_region ?_
    first | refine op_v (v_indexA Try.underlying26 sz49 rfl rfl) rfl ?_ | refine op_v (v_indexIA Try.underlying26 sz49 rfl rfl) rfl ?_
    first | refine op_v (v_loadI0 ty49 (hat.mono hI0) rfl rfl rfl) rfl ?_ | refine op_v (v_loadI ty49 (hat.mono hI0) rfl rfl rfl) rfl ?_
    refine o_alloc z49 rfl rfl (fun b8 => ?_)
    refine o_store ty49 rfl rfl rfl rfl rfl (by repeat (first | exact Swap.here | apply Swap.there)) rfl ?_
    refine ops_nil ?_
    refine post_next ?_
    refine code_seq ?_
    refine code_region ?_
    refine op_v (v_move rfl) rfl ?_
    refine op_v (v_makeFunc rfl rfl) rfl ?_
    refine op_call pl74 rfl rfl ((ContC_does (p := fun x => q x b[k]) (ha.mono hI0) (fun J x u hJ hu hxa => FDoes.ofFunc (args := [_]) (caps := [_, _]) pl126 (over1C_does (b5 := b5) (b8 := b8) (fun J2 x y ux uy h2 => hm J2 x y ux uy (Imm.le_trans hI0 (Imm.le_trans hJ h2))) hu (LitE.mono (Imm.le_trans hI0 hJ) ⟨ka, kc, ma, mc, rfl, hl, hr⟩) hxa (List.getElem_mem hlt))))) Parts.all ?_
    rintro v17 I17 _ hI17 ⟨rfl, rfl⟩
    rw [List.append_nil]
    refine op_v (v_not rfl) rfl ?_
    refine ops_nil ?_
    refine post_next ?_
    refine code_cond rfl (fun hc1 => ?_) (fun hc1 => ?_)
    · have hf : (a.any fun x => q x b[k]) = false := by simpa using hc1
      refine code_seq ?_
      refine code_region ?_
      refine op_v (v_assign rfl) rfl ?_
      refine ops_nil ?_
      refine post_next ?_
      refine code_ret ?_
      refine post_ret_block ?_
      refine post_ret_then ?_
      refine post_ret_then ?_
      refine post_ret_block ?_
      refine post_ret_then ?_
      refine post_ret (rs := [.tmp 6]) rfl (List.Perm.refl _) (.cons (.tmp rfl) .nil) (List.Sublist.cons _ (List.Sublist.cons _ (List.Sublist.refl _))) ?_
      exact ⟨by rw [show (b.all fun y => a.any fun x => q x y) = false from by cases h : (b.all fun y => a.any fun x => q x y); rfl; rw [List.all_eq_true.1 h _ (List.getElem_mem hlt)] at hf; cases hf]; rfl, rfl⟩
    · have ht : (a.any fun x => q x b[k]) = true := by simpa using hc1
      refine code_skip ?_
      refine post_out ?_
      refine post_next ?_
      refine code_region ?_
      first | refine op_v (v_addb rfl rfl rfl (by omega)) rfl ?_ | refine op_v (v_add rfl rfl) rfl ?_
      refine op_v (v_move rfl) rfl ?_
      refine ops_nil ?_
      refine PostJ.view (View.drop Del.here) ?_
      refine post_again (b.length - (k + 1)) [(0, .slice a0 a.length c0), (5, .pointer (some ⟨b5, 0, none⟩)), (9, .slice bd b.length bc), (10, .int .i64 b.length), (11, .int .i64 (k + 1 : Nat))] (by omega) ⟨k + 1, rfl, hlt, rfl, Imm.leA, rfl, by rw [List.take_succ_eq_append_getElem hlt, List.all_append, hall]; simp [ht]⟩ ⟨rfl, rfl, rfl, rfl, rfl, trivial⟩
  · have hge : k = b.length := by simp at hc0; omega
    subst hge
    rw [List.take_length] at hall
    refine code_exit ?_
    refine post_exit_then ?_
    refine post_exit_then ?_
    refine post_exit ?_
    refine post_next ?_
    refine code_seq ?_
    refine code_region ?_
    refine op_v (v_move rfl) rfl ?_
    refine op_v (v_len Try.underlying26 rfl) rfl ?_
    refine op_v (v_cmp (z := decide (0 < a.length)) rfl rfl (by simp [cmpI])) rfl ?_
    refine op_v (v_assign rfl) rfl ?_
    refine ops_nil ?_
    refine post_next ?_
    refine code_ret ?_
    refine post_ret (rs := [.tmp 6]) rfl (List.Perm.refl _) (.cons (.tmp rfl) .nil) (List.Sublist.cons _ (List.Sublist.refl _)) ?_
    exact ⟨by rw [hall]; rfl, rfl⟩
theorem Compare1_does {I : Imm} {b3 : Nat} {vg : Value} {gs : List Sy} {x y : Li} {ux uy : List Value} (hg : RepG I vg gs) (hx : LitE.R I x ux) (hy : LitE.R I y uy) (h1 : x.l.size ≤ 1000000000) (h2 : x.r.size ≤ 1000000000) (h3 : y.l.size ≤ 1000000000) (h4 : y.r.size ≤ 1000000000) (hgx : litG gs x = 0) (hgy : litG gs y = 0) :
    Does Try.prog 89 [.agg ux.toArray, .agg uy.toArray, .pointer (some ⟨b3, 0, none⟩)] I [.box b3 22 [vg]] (fun v _ δ' => v = .bool (gtL gs x y) ∧ δ' = [.box b3 22 [vg]]) := by
  have hx0 := lit_row hx
  have hy0 := lit_row hy
  have he : litE gs x y = 0 := by unfold litE; rw [if_neg (by omega)]; exact hgy
  obtain ⟨la, lc, ra, rc, rfl, _, _⟩ := hx
  obtain ⟨ma, mc, na, nc, rfl, _, _⟩ := hy
  refine Does.intro Try.func89 rfl Try.ntmps89 rfl fun w0 => ?_
  refine code_seq ?_
  refine code_region ?_
  refine o_box rfl rfl rfl (fun b3 => ?_)
  refine o_box rfl rfl rfl (fun b4 => ?_)
  refine op_v (v_assign rfl) rfl ?_
  refine ops_nil ?_
  refine post_next ?_
  refine code_seq ?_
  refine code_region ?_
  refine op_v (v_loadA ty22 rfl rfl) rfl ?_
  refine op_v (v_loadA ty49 rfl rfl) rfl ?_
  refine op_v (v_loadA ty49 rfl rfl) rfl ?_
  refine op_call pl49 rfl rfl ((LCompare_does hg hx0 hy0 h1 h2 h3 h4)) Parts.none ?_
  rintro v12 I12 _ hI12 ⟨rfl, rfl⟩
  rw [he, if_pos rfl]
  refine op_v (v_move rfl) rfl ?_
  refine op_v (v_extract rfl rfl) rfl ?_
  refine op_v (v_extract rfl rfl) rfl ?_
  refine op_v (v_assign rfl) rfl ?_
  refine op_v (v_assign rfl) rfl ?_
  refine ops_nil ?_
  refine post_next ?_
  refine code_seq ?_
  refine code_region ?_
  refine op_v (v_move rfl) rfl ?_
  first | refine op_v (v_cmptA rfl rfl rfl) rfl ?_ | refine op_v (v_cmpfA rfl rfl rfl) rfl ?_ | refine op_v (v_cmp rfl rfl rfl) rfl ?_
  refine op_v (v_move rfl) rfl ?_
  first
    | (refine op_want rfl rfl ?_
       refine op_v (v_move rfl) rfl ?_)
    | (refine op_skip rfl rfl (by simp [undef]) rfl ?_)
  first
    | (refine op_want rfl rfl ?_
       refine op_v (v_cmp (z := gtL gs x y) rfl rfl rfl) rfl ?_)
    | (refine op_skip rfl rfl (by simp [undef]) rfl ?_)
  first | refine op_v (v_pickt rfl rfl) rfl ?_ | refine op_v (v_pickf rfl rfl) rfl ?_ | refine op_v (v_pickb rfl rfl rfl) rfl ?_
  refine op_v (v_assign rfl) rfl ?_
  refine ops_nil ?_
  refine post_next ?_
  refine code_ret ?_
  refine post_ret (rs := [.tmp 5]) rfl (List.Perm.refl _) (.cons (.tmp rfl) .nil) (List.Sublist.cons _ (List.Sublist.cons _ (List.Sublist.refl _))) ?_
  exact ⟨rfl, rfl⟩
def cmpE (gs : List Sy) (c d : List Li) : Int := if chkC gs c ≠ 0 then chkC gs c else chkC gs d
theorem chkC_ok {gs : List Sy} {c : List Li} (h : chkC gs c = 0) : chkG gs = 0 ∧ c.length ≤ 32 ∧ ∀ x ∈ c, litG gs x = 0 := by
  unfold chkC at h
  by_cases h1 : chkG gs ≠ 0
  · rw [if_pos h1] at h; exact absurd h h1
  · rw [if_neg h1] at h
    by_cases h2 : 32 < c.length
    · rw [if_pos h2] at h; cases h
    · rw [if_neg h2] at h
      exact ⟨Classical.not_not.1 h1, by omega, chkLs_ok.1 h⟩
theorem overC_X {gs : List Sy} (a b : List Li) : ((b.all fun y => a.any fun x => gtL gs x y) && decide (0 < a.length)) = overX (gtL gs) (a.map canL) (b.map canL) := by
  unfold overX
  rw [List.length_map, Bool.and_comm]
  congr 1
  rw [List.all_map]
  congr 1
  funext y
  simp only [Function.comp, List.any_map]
  congr 1
  funext x
  simp only [Function.comp, gtL_can]
theorem CCompare_does {I : Imm} {vg va vb : Value} {gs : List Sy} {c d : List Li} (hg : RepG I vg gs) (ha : RepC I va c) (hb : RepC I vb d) (hs : SmC c) (ht : SmC d) :
    Does Try.prog 42 [vg, va, vb] I [] (fun v I' δ' => v = .tuple #[.int .i64 (if cmpE gs c d = 0 then cmpC gs c d else 0), .int .i64 (cmpE gs c d)] ∧ δ' = []) := by
  obtain ⟨ga, gc, hsg⟩ := hg.shape
  subst hsg
  refine Does.intro Try.func42 rfl Try.ntmps42 rfl fun w0 => ?_
  refine code_seq ?_
  refine code_region ?_
  refine o_box rfl rfl rfl (fun b3 => ?_)
  refine op_v (v_assign rfl) rfl ?_
  refine op_v (v_assign rfl) rfl ?_
  refine ops_nil ?_
  refine post_next ?_
  refine code_seq ?_
  refine code_seq ?_
  refine code_region ?_
  refine op_v (v_loadA ty22 rfl rfl) rfl ?_
  refine op_v (v_move rfl) rfl ?_
  refine op_call pl46 rfl rfl ((CCheck_does hg ha hs)) Parts.none ?_
  rintro v15 I15 _ hI15 ⟨rfl, rfl⟩
  refine op_v (v_assign rfl) rfl ?_
  refine ops_nil ?_
  refine post_next ?_
  refine code_seq ?_
  refine code_region ?_
  refine op_v (v_move rfl) rfl ?_
  by_cases h17 : chkC gs c ≠ 0
  · have he : cmpE gs c d = chkC gs c := if_pos h17
    first | refine op_v (v_cmptA rfl rfl rfl) rfl ?_ | refine op_v (v_cmpfA rfl rfl rfl) rfl ?_ | refine op_v (v_cmp rfl rfl rfl) rfl ?_
    refine ops_nil ?_
    refine post_next ?_
    refine code_cond_t rfl ?_
    refine code_seq ?_
    refine code_region ?_
    refine op_v (v_move rfl) rfl ?_
    refine op_v (v_assign rfl) rfl ?_
    refine op_v (v_assign rfl) rfl ?_
    refine ops_nil ?_
    refine post_next ?_
    refine code_ret ?_
    refine post_ret_then ?_
    refine post_ret (rs := [.tmp 6, .tmp 7]) rfl (List.Perm.refl _) (.cons (.tmp rfl) (.cons (.tmp rfl) .nil)) (List.nil_sublist _) ?_
    exact ⟨by rw [he, if_neg h17]; rfl, rfl⟩
  · have he : cmpE gs c d = chkC gs d := if_neg h17
    first | refine op_v (v_cmptA rfl rfl rfl) rfl ?_ | refine op_v (v_cmpfA rfl rfl rfl) rfl ?_ | refine op_v (v_cmp rfl rfl rfl) rfl ?_
    refine ops_nil ?_
    refine post_next ?_
    refine code_cond_f rfl ?_
    refine code_skip ?_
    refine post_next ?_
    refine code_seq ?_
    refine code_seq ?_
    refine code_region ?_
    refine op_v (v_loadA ty22 rfl rfl) rfl ?_
    refine op_v (v_move rfl) rfl ?_
    refine op_call pl46 rfl rfl ((CCheck_does (hg.mono Imm.leA) (hb.mono Imm.leA) ht)) Parts.none ?_
    rintro v21 I21 _ hI21 ⟨rfl, rfl⟩
    refine op_v (v_assign rfl) rfl ?_
    refine ops_nil ?_
    refine post_next ?_
    refine code_seq ?_
    refine code_region ?_
    refine op_v (v_move rfl) rfl ?_
    by_cases h23 : chkC gs d ≠ 0
    · first | refine op_v (v_cmptA rfl rfl rfl) rfl ?_ | refine op_v (v_cmpfA rfl rfl rfl) rfl ?_ | refine op_v (v_cmp rfl rfl rfl) rfl ?_
      refine ops_nil ?_
      refine post_next ?_
      refine code_cond_t rfl ?_
      refine code_seq ?_
      refine code_region ?_
      refine op_v (v_move rfl) rfl ?_
      refine op_v (v_assign rfl) rfl ?_
      refine op_v (v_assign rfl) rfl ?_
      refine ops_nil ?_
      refine post_next ?_
      refine code_ret ?_
      refine post_ret_then ?_
      refine post_ret (rs := [.tmp 6, .tmp 7]) rfl (List.Perm.refl _) (.cons (.tmp rfl) (.cons (.tmp rfl) .nil)) (List.nil_sublist _) ?_
      exact ⟨by rw [he, if_neg h23]; rfl, rfl⟩
    · have h17' : chkC gs c = 0 := Classical.not_not.1 h17
      have h23' : chkC gs d = 0 := Classical.not_not.1 h23
      obtain ⟨_, hlc, hgc⟩ := chkC_ok h17'
      obtain ⟨_, hld, hgd⟩ := chkC_ok h23'
      have he0 : cmpE gs c d = 0 := he.trans h23'
      first | refine op_v (v_cmptA rfl rfl rfl) rfl ?_ | refine op_v (v_cmpfA rfl rfl rfl) rfl ?_ | refine op_v (v_cmp rfl rfl rfl) rfl ?_
      refine ops_nil ?_
      refine post_next ?_
      refine code_cond_f rfl ?_
      refine code_skip ?_
      refine post_next ?_
      refine code_seq ?_
      refine code_region ?_
      refine op_v (v_move rfl) rfl ?_
      refine op_v (v_move rfl) rfl ?_
      refine op_call pl88 rfl rfl ((restC_does (ha.mono Imm.leA) (hb.mono Imm.leA) hs ht (by omega) (by omega))) Parts.none ?_
      rintro v27 I27 _ hI27 ⟨⟨X, hX, hXm, hXs, hXl⟩, rfl⟩
      refine op_v (v_move rfl) rfl ?_
      refine op_v (v_move rfl) rfl ?_
      refine op_call pl88 rfl rfl ((restC_does (hb.mono Imm.leA) (ha.mono Imm.leA) ht hs (by omega) (by omega))) Parts.none ?_
      rintro v30 I30 _ hI30 ⟨⟨Y, hY, hYm, hYs, hYl⟩, rfl⟩
      obtain ⟨xa, xc, rfl⟩ := RepE.shape hX
      obtain ⟨ya, yc, rfl⟩ := RepE.shape hY
      have hXn : X.length = (rsX (c.map canL) (d.map canL)).length := by rw [← hXm, List.length_map]
      have hYn : Y.length = (rsX (d.map canL) (c.map canL)).length := by rw [← hYm, List.length_map]
      refine op_v (v_assign rfl) rfl ?_
      refine op_v (v_assign rfl) rfl ?_
      refine ops_nil ?_
      refine post_next ?_
      refine code_seq ?_
      refine code_region ?_
      refine op_v (v_makeFunc rfl rfl) rfl ?_
      refine op_v (v_assign rfl) rfl ?_
      refine ops_nil ?_
      refine post_next ?_
      refine code_seq ?_
      refine code_block ?_
      refine code_seq ?_
      refine code_region ?_
      refine op_v (v_move rfl) rfl ?_
      refine op_v (v_len Try.underlying26 rfl) rfl ?_
      refine op_v (v_move rfl) rfl ?_
      refine op_v (v_len Try.underlying26 rfl) rfl ?_
      first | refine op_v (v_addb rfl rfl rfl (by omega)) rfl ?_ | refine op_v (v_add rfl rfl) rfl ?_
      by_cases h38 : X.length + Y.length = 0
      · first | refine op_v (v_cmptA rfl rfl rfl) rfl ?_ | refine op_v (v_cmpfA rfl rfl rfl) rfl ?_ | refine op_v (v_cmp rfl rfl rfl) rfl ?_
        refine op_v (v_assign rfl) rfl ?_
        refine ops_nil ?_
        refine post_next ?_
        refine code_cond_t rfl ?_
        refine code_seq ?_
        refine code_region ?_
        refine op_v (v_assign rfl) rfl ?_
        refine op_v (v_assign rfl) rfl ?_
        refine ops_nil ?_
        refine post_next ?_
        refine code_ret ?_
        refine post_ret_block ?_
        refine post_ret_then ?_
        refine post_ret (rs := [.tmp 6, .tmp 7]) rfl (List.Perm.refl _) (.cons (.tmp rfl) (.cons (.tmp rfl) .nil)) (List.nil_sublist _) ?_
        exact ⟨by rw [he0, if_pos rfl]; unfold cmpC mulX; rw [if_pos (by omega)]; rfl, rfl⟩
      · first | refine op_v (v_cmptA rfl rfl rfl) rfl ?_ | refine op_v (v_cmpfA rfl rfl rfl) rfl ?_ | refine op_v (v_cmp rfl rfl rfl) rfl ?_
        refine op_v (v_assign rfl) rfl ?_
        refine ops_nil ?_
        refine post_next ?_
        refine code_cond_f rfl ?_
        refine code_seq ?_
        refine code_region ?_
        refine op_v (v_move rfl) rfl ?_
        refine op_v (v_move rfl) rfl ?_
        refine op_v (v_move rfl) rfl ?_
        refine op_call pl90 rfl rfl ((overC_does (q := gtL gs) (δm := [.box b3 22 [.slice ga gs.length gc]]) rfl (hX.mono Imm.leA) (hY.mono Imm.leA) (fun J x y ux uy hJ hux huy hx hy => FDoes.ofFunc (args := [_, _]) (caps := [_]) pl89 (Compare1_does (b3 := b3) (hg.mono (Imm.le_trans (show I.le I30 from Imm.leA) hJ)) hux huy (hs x (hXs x hx)).1 (hs x (hXs x hx)).2 (ht y (hYs y hy)).1 (ht y (hYs y hy)).2 (hgc x (hXs x hx)) (hgd y (hYs y hy)))))) Parts.all ?_
        rintro v43 I43 _ hI43 ⟨rfl, rfl⟩
        rw [List.append_nil, overC_X, hXm, hYm]
        refine op_v (v_assign rfl) rfl ?_
        refine ops_nil ?_
        refine post_next ?_
        refine code_cond rfl (fun hc3 => ?_) (fun hc3 => ?_)
        · refine code_seq ?_
          refine code_region ?_
          refine op_v (v_assign rfl) rfl ?_
          refine op_v (v_assign rfl) rfl ?_
          refine ops_nil ?_
          refine post_next ?_
          refine code_ret ?_
          refine post_ret_block ?_
          refine post_ret_then ?_
          refine post_ret (rs := [.tmp 6, .tmp 7]) rfl (List.Perm.refl _) (.cons (.tmp rfl) (.cons (.tmp rfl) .nil)) (List.nil_sublist _) ?_
          exact ⟨by rw [he0, if_pos rfl]; unfold cmpC mulX; rw [if_neg (by omega), if_pos hc3]; rfl, rfl⟩
        · refine code_seq ?_
          refine code_region ?_
          refine op_v (v_move rfl) rfl ?_
          refine op_v (v_move rfl) rfl ?_
          refine op_v (v_move rfl) rfl ?_
          refine op_call pl90 rfl rfl ((overC_does (q := gtL gs) (δm := [.box b3 22 [.slice ga gs.length gc]]) rfl (hY.mono Imm.leA) (hX.mono Imm.leA) (fun J x y ux uy hJ hux huy hx hy => FDoes.ofFunc (args := [_, _]) (caps := [_]) pl89 (Compare1_does (b3 := b3) (hg.mono (Imm.le_trans (show I.le I43 from Imm.leA) hJ)) hux huy (ht x (hYs x hx)).1 (ht x (hYs x hx)).2 (hs y (hXs y hy)).1 (hs y (hXs y hy)).2 (hgd x (hYs x hx)) (hgc y (hXs y hy)))))) Parts.all ?_
          rintro v48 I48 _ hI48 ⟨rfl, rfl⟩
          rw [List.append_nil, overC_X, hXm, hYm]
          refine op_v (v_assign rfl) rfl ?_
          refine ops_nil ?_
          refine post_next ?_
          refine code_cond rfl (fun hc4 => ?_) (fun hc4 => ?_)
          · refine code_seq ?_
            refine code_region ?_
            refine op_v (v_assign rfl) rfl ?_
            refine op_v (v_assign rfl) rfl ?_
            refine ops_nil ?_
            refine post_next ?_
            refine code_ret ?_
            refine post_ret_block ?_
            refine post_ret_then ?_
            refine post_ret (rs := [.tmp 6, .tmp 7]) rfl (List.Perm.refl _) (.cons (.tmp rfl) (.cons (.tmp rfl) .nil)) (List.nil_sublist _) ?_
            exact ⟨by rw [he0, if_pos rfl]; unfold cmpC mulX; rw [if_neg (by omega), if_neg (by rw [hc3]; simp), if_pos hc4]; rfl, rfl⟩
          · refine code_skip ?_
            refine post_out ?_
            refine post_next ?_
            refine code_seq ?_
            refine code_region ?_
            refine op_v (v_assign rfl) rfl ?_
            refine op_v (v_assign rfl) rfl ?_
            refine ops_nil ?_
            refine post_next ?_
            refine code_ret ?_
            refine post_ret (rs := [.tmp 6, .tmp 7]) rfl (List.Perm.refl _) (.cons (.tmp rfl) (.cons (.tmp rfl) .nil)) (List.nil_sublist _) ?_
            exact ⟨by rw [he0, if_pos rfl]; unfold cmpC mulX; rw [if_neg (by omega), if_neg (by rw [hc3]; simp), if_neg (by rw [hc4]; simp)]; rfl, rfl⟩
end Go.Proofs.Ytdbadicpbmndbaa
/- Walks: the statement that it is an order. -/
set_option linter.unusedVariables false
set_option linter.unusedSimpArgs false
/- short -/
namespace Go.Proofs.Ytdbadicpbmndbaa
open Go Lg

theorem varsP_nil : ∀ {l : List (Nat × T)}, varsP l = [] → ∀ x ∈ l, 0 ≤ x.2.head := by
  intro l
  induction l using snoc_ind with
  | h0 => intro _ x hx; cases hx
  | h1 l y ih =>
    intro h x hx
    rw [varsP_snoc] at h
    by_cases hc : 0 ≤ -1 - y.2.head ∧ -1 - y.2.head ∉ varsP l
    · rw [if_pos hc] at h; simp at h
    · rw [if_neg hc] at h
      rcases List.mem_append.1 hx with hx | hx
      · exact ih h x hx
      · simp at hx; subst hx
        rw [h] at hc
        have : ¬ 0 ≤ -1 - x.2.head := fun q => hc ⟨q, by simp⟩
        omega
theorem vars_ground {t : T} (h : (varsP (partsT 1 t)).length = 0) : ∀ k ∈ hds t, 0 ≤ k := by
  intro k hk
  obtain ⟨x, hx, rfl⟩ := List.mem_map.1 hk
  have h2 : x.2 ∈ (partsT 1 t).map (·.2) := by rw [snd_T 1 true t]; exact List.mem_map_of_mem hx
  obtain ⟨y, hy, hyx⟩ := List.mem_map.1 h2
  rw [← hyx]
  exact varsP_nil (List.eq_nil_of_length_eq_zero h) y hy
theorem wrong2 {gs : List Sy} {a b : T} (h : wrongG gs [a, b] = 0) : OkG gs a ∧ OkG gs b := by
  have := wrongG_ok.1 h; exact ⟨this a (by simp), this b (by simp)⟩

end Go.Proofs.Ytdbadicpbmndbaa
/- Walks: the document's answer on variables, one by one; clauses without variables: the statement. -/
set_option linter.unusedVariables false
set_option linter.unusedSimpArgs false
set_option linter.unnecessarySimpa false
/- short -/
namespace Go.Proofs.Ytdbadicpbmndbaa
open Go Lg

mutual
def uvT : T → List Int
  | .mk h ts => uvL (if h < 0 then [-1 - h] else []) ts
def uvL : List Int → List T → List Int
  | acc, [] => acc
  | acc, t :: r => uvL (uniL acc (uvT t)) r
end
theorem uvL_app : ∀ (a b : List T) (acc : List Int), uvL acc (a ++ b) = uvL (uvL acc a) b
  | [], b, acc => by simp [uvL]
  | t :: r, b, acc => by simp only [List.cons_append, uvL, uvL_app r b]
theorem uvL_take (acc : List Int) (ts : List T) (k : Nat) (h : k < ts.length) : uvL acc (ts.take (k + 1)) = uniL (uvL acc (ts.take k)) (uvT ts[k]) := by
  rw [List.take_succ_eq_append_getElem h, uvL_app]; simp [uvL]
mutual
theorem uvT_len : ∀ t : T, (uvT t).length ≤ t.size
  | .mk h ts => by
    have h1 := uvL_len ts (if h < 0 then [-1 - h] else [])
    have h2 : (if h < 0 then [-1 - h] else []).length ≤ 1 := by split <;> simp
    simp only [uvT, T.size]; omega
theorem uvL_len : ∀ (ts : List T) (acc : List Int), (uvL acc ts).length ≤ acc.length + sizeL ts
  | [], acc => by simp [uvL, sizeL]
  | t :: r, acc => by
    have h1 := uvT_len t
    have h2 := uniL_len acc (uvT t)
    have h3 := uvL_len r (uniL acc (uvT t))
    simp only [uvL, sizeL]; omega
end
theorem RVars2_does : ∀ (n : Nat) (t : T), t.size ≤ n → t.size ≤ 100000 → ∀ (I : Imm) (v : Value), RepT I v t →
    Does Try.prog 113 [v] I [] (fun v I' δ' => RInts I' v (uvT t) ∧ δ' = []) := by
  intro n
  induction n with
  | zero => intro t ht; have := t.size_pos; omega
  | succ n ih =>
    intro t ht hbig I v hv
    obtain ⟨h, ts⟩ := t
    obtain ⟨ad, c, ss, rfl, hr, hc, hb, hat, hsub⟩ := hv.elim
    have hsz : (T.mk h ts).size = 1 + sizeL ts := by simp [T.size]
    have hr0 := hr
    unfold InR at hr0
    refine Does.intro Try.func113 rfl Try.ntmps113 rfl fun w0 => ?_
    refine code_seq ?_
    refine code_region ?_
    refine o_box rfl rfl rfl (fun b1 => ?_)
    refine op_v (v_assign rfl) rfl ?_
    refine ops_nil ?_
    refine post_next ?_
    refine code_seq ?_
    refine code_region ?_
    refine op_v (v_assign rfl) rfl ?_
    refine ops_nil ?_
    refine post_next ?_
    refine code_seq_meet (fun σ' I' δ' => ∃ (ar : Option Addr) (cr : Nat) (ini : List Int), σ' = [(1, .pointer (some ⟨b1, 0, none⟩)), (3, .slice ar ini.length cr)] ∧ I = I' ∧ δ' = [iRow ar cr ini, .box b1 47 [.int .i64 h, .slice ad ts.length c]] ∧ uvT (.mk h ts) = uvL ini ts ∧ ini.length ≤ 1 ∧ ∀ x ∈ ini, InR x) ?_ ?_
    · refine code_seq ?_
      refine code_region ?_
      first | refine op_v (v_fieldB 0 Try.underlying47 rfl rfl fz3 rfl) rfl ?_ | refine op_v (v_fieldI 0 Try.underlying47 rfl rfl fz3 rfl (by assumption)) rfl ?_ | refine op_v (v_field Try.underlying47 rfl fz3 rfl rfl) rfl ?_
      refine op_v (v_loadA ty3 rfl rfl) rfl ?_
      first | refine op_v (v_cmptA rfl rfl rfl) rfl ?_ | refine op_v (v_cmpfA rfl rfl rfl) rfl ?_ | refine op_v (v_cmp rfl rfl rfl) rfl ?_
      refine ops_nil ?_
      refine post_next ?_
      refine code_cond rfl (fun hc0 => ?_) (fun hc0 => ?_)
      · have h9 : h < 0 := by simpa using hc0
        refine code_region ?_
        refine op_v (v_move rfl) rfl ?_
        first | refine op_v (v_fieldB 0 Try.underlying47 rfl rfl fz3 rfl) rfl ?_ | refine op_v (v_fieldI 0 Try.underlying47 rfl rfl fz3 rfl (by assumption)) rfl ?_ | refine op_v (v_field Try.underlying47 rfl fz3 rfl rfl) rfl ?_
        refine op_v (v_loadA ty3 rfl rfl) rfl ?_
        first | refine op_v (v_subb rfl rfl rfl (by omega)) rfl ?_ | refine op_v (v_sub rfl rfl) rfl ?_
        refine o_buildSlice (xs := [(Go.Operand.tmp 13)]) Try.underlying62 bs3 rfl rfl rfl rfl rfl (fun b14 => ?_)
        refine OpsJ.view (View.nilRow 3 1) ?_
        refine o_append Try.underlying62 bs3 rfl rfl rfl (fun v' => by repeat (first | exact Swap.here | apply Swap.there)) (Src.ofRow (by repeat (first | exact Has.here | apply Has.there)) rfl) (by first | rfl | omega | simp) (by simp [cat, cellsL, Value.oneCell']) (by omega) (by omega) (fun a15 c15 => ?_)
        refine op_v (v_assign rfl) rfl ?_
        refine ops_nil ?_
        refine PostJ.view (View.drop (Del.there Del.here)) ?_
        refine post_meet _ ⟨a15, c15, [-1 - h], rfl, rfl, by simp [iRow, cat, cellsL], by simp only [uvT]; rw [if_pos h9], by simp, fun x hx => by simp at hx; subst hx; unfold InR; omega⟩ ⟨rfl, rfl, trivial⟩
      · have h9 : ¬ h < 0 := by simpa using hc0
        refine code_skip ?_
        refine PostJ.view (View.nilRow 3 1) ?_
        refine post_meet _ ⟨none, 0, [], rfl, rfl, rfl, by simp only [uvT]; rw [if_neg h9], by simp, fun x hx => by cases hx⟩ ⟨rfl, rfl, trivial⟩
    · rintro _ _ _ ⟨ar, cr, ini, rfl, rfl, rfl, hue, hil, hin0⟩
      refine code_seq ?_
      refine code_seq ?_
      refine code_region ?_
      refine op_v (v_assign rfl) rfl ?_
      refine ops_nil ?_
      refine post_next ?_
      refine code_block ?_
      refine code_loop (fun m σ' I' δ' => ∃ (k : Nat) (ar : Option Addr) (cr : Nat), m = ts.length - k ∧ k ≤ ts.length ∧ σ' = [(1, .pointer (some ⟨b1, 0, none⟩)), (3, .slice ar (uvL ini (ts.take k)).length cr), (4, .int .i64 k)] ∧ I.le I' ∧ δ' = [iRow ar cr (uvL ini (ts.take k)), .box b1 47 [.int .i64 h, .slice ad ts.length c]] ∧ ∀ x ∈ uvL ini (ts.take k), InR x) ts.length [(1, .pointer (some ⟨b1, 0, none⟩)), (3, .slice ar ini.length cr), (4, .int .i64 (0 : Nat))] ⟨0, ar, cr, rfl, Nat.zero_le _, rfl, Imm.le_refl _, rfl, hin0⟩ ⟨rfl, rfl, rfl, trivial⟩ ?_
      rintro m _ I0 _ ⟨k, ar, cr, rfl, hk, rfl, hI0, rfl, hin⟩
      have hgl := uvL_len (ts.take k) ini
      refine code_seq ?_
      refine code_seq ?_
      refine code_region ?_
      refine op_v (v_move rfl) rfl ?_
      first | refine op_v (v_fieldB 1 Try.underlying47 rfl rfl fz45 rfl) rfl ?_ | refine op_v (v_fieldI 1 Try.underlying47 rfl rfl fz45 rfl (by assumption)) rfl ?_ | refine op_v (v_field Try.underlying47 rfl fz45 rfl rfl) rfl ?_
      refine op_v (v_loadA ty45 rfl rfl) rfl ?_
      refine op_v (v_len Try.underlying45 rfl) rfl ?_
      first | refine op_v (v_cmptA rfl rfl rfl) rfl ?_ | refine op_v (v_cmpfA rfl rfl rfl) rfl ?_ | refine op_v (v_cmp rfl rfl rfl) rfl ?_
      refine ops_nil ?_
      refine post_next ?_
      refine code_cond rfl (fun hc1 => ?_) (fun hc1 => ?_)
      · have hlt : k < ts.length := by simpa using hc1
        have hs1 := (hat k hlt).isSome
        have hm := sizeL_mem ts k hlt
        have hst := sizeL_take ts k hlt
        have hsd : sizeL (ts.take (k + 1)) + sizeL (ts.drop (k + 1)) = sizeL ts := by rw [← sizeL_app, List.take_append_drop]
        have hvt := uvL_take ini ts k hlt
        have hpl := uvT_len ts[k]
        refine code_skip ?_
        refine post_next ?_
        refine code_seq ?_
        refine code_block ?_
        refine code_seq ?_
        refine code_region ?_
        first | refine op_v (v_fieldB 1 Try.underlying47 rfl rfl fz45 rfl) rfl ?_ | refine op_v (v_fieldI 1 Try.underlying47 rfl rfl fz45 rfl (by assumption)) rfl ?_ | refine op_v (v_field Try.underlying47 rfl fz45 rfl rfl) rfl ?_
        refine op_v (v_loadA ty45 rfl rfl) rfl ?_
        refine op_v (v_move rfl) rfl ?_
        first | refine op_v (v_indexA Try.underlying45 sz47 rfl rfl) rfl ?_ | refine op_v (v_indexIA Try.underlying45 sz47 rfl rfl) rfl ?_
        first | refine op_v (v_loadI0 ty47 ((hat k hlt).mono hI0) rfl rfl rfl) rfl ?_ | refine op_v (v_loadI ty47 ((hat k hlt).mono hI0) rfl rfl rfl) rfl ?_
        refine op_call pl113 rfl rfl ((ih ts[k] (by omega) (by omega) _ _ ((hsub k hlt).mono hI0))) Parts.none ?_
        rintro v28 I28 _ hI28 ⟨hv28, rfl⟩
        have hn28 := hv28.len
        obtain ⟨va, vc, rfl⟩ := hv28.shape
        refine op_v (v_assign rfl) rfl ?_
        refine ops_nil ?_
        refine post_next ?_
        refine code_seq ?_
        refine code_region ?_
        refine op_v (v_assign rfl) rfl ?_
        refine ops_nil ?_
        refine post_next ?_
        refine code_block ?_
        refine code_loop (fun m σ' I' δ' => ∃ (j : Nat) (ar : Option Addr) (cr : Nat), m = (uvT ts[k]).length - j ∧ j ≤ (uvT ts[k]).length ∧ σ' = [(1, .pointer (some ⟨b1, 0, none⟩)), (3, .slice ar (uniL (uvL ini (ts.take k)) ((uvT ts[k]).take j)).length cr), (4, .int .i64 k), (5, .slice va (uvT ts[k]).length vc), (6, .int .i64 j)] ∧ I28.le I' ∧ δ' = [iRow ar cr (uniL (uvL ini (ts.take k)) ((uvT ts[k]).take j)), .box b1 47 [.int .i64 h, .slice ad ts.length c]] ∧ ∀ x ∈ uniL (uvL ini (ts.take k)) ((uvT ts[k]).take j), InR x) (uvT ts[k]).length [(1, .pointer (some ⟨b1, 0, none⟩)), (3, .slice ar (uvL ini (ts.take k)).length cr), (4, .int .i64 k), (5, .slice va (uvT ts[k]).length vc), (6, .int .i64 (0 : Nat))] ⟨0, ar, cr, rfl, Nat.zero_le _, rfl, Imm.le_refl _, rfl, hin⟩ ⟨rfl, rfl, rfl, rfl, rfl, trivial⟩ ?_
        rintro m _ I1 _ ⟨j, ar, cr, rfl, hj, rfl, hI1, rfl, hin2⟩
        have hul := uniL_len (uvL ini (ts.take k)) ((uvT ts[k]).take j)
        rw [List.length_take] at hul
        refine code_seq ?_
        refine code_seq ?_
        refine code_region ?_
        refine op_v (v_move rfl) rfl ?_
        refine op_v (v_move rfl) rfl ?_
        refine op_v (v_len Try.underlying62 rfl) rfl ?_
        first | refine op_v (v_cmptA rfl rfl rfl) rfl ?_ | refine op_v (v_cmpfA rfl rfl rfl) rfl ?_ | refine op_v (v_cmp rfl rfl rfl) rfl ?_
        refine ops_nil ?_
        refine post_next ?_
        refine code_cond rfl (fun hc2 => ?_) (fun hc2 => ?_)
        · have hjl : j < (uvT ts[k]).length := by simpa using hc2
          have hatj := hv28.atI j hjl
          have hs2 := hatj.isSome
          have hut := uniL_take (uvL ini (ts.take k)) (uvT ts[k]) j hjl
          have hinj := hn28.2 _ (List.getElem_mem hjl)
          refine code_skip ?_
          refine post_next ?_
          refine code_seq ?_
          refine code_block ?_
          refine code_seq ?_
          refine code_region ?_
          refine op_v (v_move rfl) rfl ?_
          refine op_v (v_move rfl) rfl ?_
          first | refine op_v (v_indexA Try.underlying62 sz3 rfl rfl) rfl ?_ | refine op_v (v_indexIA Try.underlying62 sz3 rfl rfl) rfl ?_
          first | refine op_v (v_loadI0 ty3 (hatj.mono hI1) rfl rfl rfl) rfl ?_ | refine op_v (v_loadI ty3 (hatj.mono hI1) rfl rfl rfl) rfl ?_
          refine op_v (v_move rfl) rfl ?_
          refine op_call pl54 rfl rfl ((In_does (by omega))) (Parts.one Del.here) ?_
          rintro v40 I40 _ hI40 ⟨rfl, rfl⟩
          by_cases hm41 : (uvT ts[k])[j] ∈ uniL (uvL ini (ts.take k)) ((uvT ts[k]).take j)
          · rw [decide_eq_true hm41]
            have hae : addN (uniL (uvL ini (ts.take k)) ((uvT ts[k]).take j)) (uvT ts[k])[j] = uniL (uvL ini (ts.take k)) ((uvT ts[k]).take j) := if_pos hm41
            rw [hae] at hut
            refine op_v (v_not rfl) rfl ?_
            refine ops_nil ?_
            refine post_next ?_
            refine code_cond_f rfl ?_
            refine code_skip ?_
            refine post_out ?_
            refine post_next ?_
            refine code_region ?_
            refine op_v (v_move rfl) rfl ?_
            first | refine op_v (v_addb rfl rfl rfl (by omega)) rfl ?_ | refine op_v (v_add rfl rfl) rfl ?_
            refine op_v (v_assign rfl) rfl ?_
            refine ops_nil ?_
            refine post_again ((uvT ts[k]).length - (j + 1)) [(1, .pointer (some ⟨b1, 0, none⟩)), (3, .slice ar (uniL (uvL ini (ts.take k)) ((uvT ts[k]).take j)).length cr), (4, .int .i64 k), (5, .slice va (uvT ts[k]).length vc), (6, .int .i64 (j + 1 : Nat))] (by omega) ⟨j + 1, ar, cr, rfl, hjl, by rw [hut], Imm.leA, by rw [hut]; rfl, by rw [hut]; exact hin2⟩ ⟨rfl, rfl, rfl, rfl, rfl, trivial⟩
          · rw [decide_eq_false hm41]
            have hae : addN (uniL (uvL ini (ts.take k)) ((uvT ts[k]).take j)) (uvT ts[k])[j] = uniL (uvL ini (ts.take k)) ((uvT ts[k]).take j) ++ [(uvT ts[k])[j]] := if_neg hm41
            rw [hae] at hut
            refine op_v (v_not rfl) rfl ?_
            refine ops_nil ?_
            refine post_next ?_
            refine code_cond_t rfl ?_
            refine code_region ?_
            refine op_v (v_move rfl) rfl ?_
            refine op_v (v_move rfl) rfl ?_
            refine op_v (v_move rfl) rfl ?_
            first | refine op_v (v_indexA Try.underlying62 sz3 rfl rfl) rfl ?_ | refine op_v (v_indexIA Try.underlying62 sz3 rfl rfl) rfl ?_
            first | refine op_v (v_loadI0 ty3 (hatj.mono Imm.leA) rfl rfl rfl) rfl ?_ | refine op_v (v_loadI ty3 (hatj.mono Imm.leA) rfl rfl rfl) rfl ?_
            refine o_buildSlice (xs := [(Go.Operand.tmp 46)]) Try.underlying62 bs3 rfl rfl rfl rfl rfl (fun b47 => ?_)
            refine o_append Try.underlying62 bs3 rfl rfl rfl (fun v' => by repeat (first | exact Swap.here | apply Swap.there)) (Src.ofRow (by repeat (first | exact Has.here | apply Has.there)) rfl) (by first | rfl | omega | simp) (by simp [cat, cellsL, Value.oneCell']) (by omega) (by omega) (fun a48 c48 => ?_)
            refine op_v (v_assign rfl) rfl ?_
            refine ops_nil ?_
            refine post_out ?_
            refine post_next ?_
            refine code_region ?_
            refine op_v (v_move rfl) rfl ?_
            first | refine op_v (v_addb rfl rfl rfl (by omega)) rfl ?_ | refine op_v (v_add rfl rfl) rfl ?_
            refine op_v (v_assign rfl) rfl ?_
            refine ops_nil ?_
            refine PostJ.view (View.drop Del.here) ?_
            refine post_again ((uvT ts[k]).length - (j + 1)) [(1, .pointer (some ⟨b1, 0, none⟩)), (3, .slice a48 ((uniL (uvL ini (ts.take k)) ((uvT ts[k]).take j)).length + 1) c48), (4, .int .i64 k), (5, .slice va (uvT ts[k]).length vc), (6, .int .i64 (j + 1 : Nat))] (by omega) ⟨j + 1, a48, c48, rfl, hjl, by rw [hut]; simp, Imm.leA, by rw [hut]; simp [iRow, cat, cellsL], by rw [hut]; intro x hx; rcases List.mem_append.1 hx with h | h; exact hin2 x h; simp at h; subst h; exact hinj⟩ ⟨rfl, rfl, rfl, rfl, rfl, trivial⟩
        · have hjg : j = (uvT ts[k]).length := by simp at hc2; omega
          subst hjg
          rw [List.take_length, ← hvt] at hin2
          rw [List.take_length, ← hvt]
          refine code_exit ?_
          refine post_exit_then ?_
          refine post_exit_then ?_
          refine post_exit ?_
          refine post_out ?_
          refine post_next ?_
          refine code_region ?_
          refine op_v (v_move rfl) rfl ?_
          first | refine op_v (v_addb rfl rfl rfl (by omega)) rfl ?_ | refine op_v (v_add rfl rfl) rfl ?_
          refine op_v (v_assign rfl) rfl ?_
          refine ops_nil ?_
          refine post_again (ts.length - (k + 1)) [(1, .pointer (some ⟨b1, 0, none⟩)), (3, .slice ar (uvL ini (ts.take (k + 1))).length cr), (4, .int .i64 (k + 1 : Nat))] (by omega) ⟨k + 1, ar, cr, rfl, hlt, rfl, Imm.leA, rfl, hin2⟩ ⟨rfl, rfl, rfl, trivial⟩
      · have hge : k = ts.length := by simp at hc1; omega
        subst hge
        rw [List.take_length] at hin hgl
        rw [List.take_length]
        refine code_exit ?_
        refine post_exit_then ?_
        refine post_exit_then ?_
        refine post_exit ?_
        refine post_next ?_
        refine code_seq ?_
        refine code_region ?_
        refine OpsJ.freezeRow Del.here ?_
        rintro I49 ar2 cr2 hI49 hvr hcr hlr hcells
        cases hvr
        refine op_v (v_move rfl) rfl ?_
        refine op_v (v_assign rfl) rfl ?_
        refine ops_nil ?_
        refine post_next ?_
        refine code_ret ?_
        refine post_ret (rs := [.tmp 2]) rfl (List.Perm.refl _) (.cons (.tmp rfl) .nil) (List.nil_sublist _) ?_
        exact ⟨by rw [hue]; exact RInts.of rfl hcr (by omega) hcells hin, rfl⟩
theorem RVars10_does {I : Imm} {v : Value} {c : List Li} (hv : RepC I v c) (hbig : sizeL (sidesL c) ≤ 10000) :
    Does Try.prog 41 [v] I [] (fun v I' δ' => RInts I' v (uvL [] (sidesL c)) ∧ δ' = []) := by
  have h5 : ∀ {I : Imm} {v : Value}, RepS I v (sidesL c) → Does Try.prog 67 [v] I [] (fun v I' δ' => RInts I' v (uvL [] (sidesL c)) ∧ δ' = []) := fun {I v} hs => by
    obtain ⟨sa, sc, rfl⟩ := hs.shape
    refine Does.intro Try.func67 rfl Try.ntmps67 rfl fun w0 => ?_
    refine code_seq ?_
    refine code_region ?_
    refine op_v (v_assign rfl) rfl ?_
    refine ops_nil ?_
    refine post_next ?_
    refine code_seq ?_
    refine code_region ?_
    refine op_v (v_move rfl) rfl ?_
    refine op_v (v_build bl47 rfl rfl) rfl ?_
    refine o_alloc z47 rfl rfl (fun b3 => ?_)
    refine o_store ty47 rfl rfl rfl rfl rfl (by repeat (first | exact Swap.here | apply Swap.there)) rfl ?_
    refine ops_nil ?_
    refine post_next ?_
    refine code_seq ?_
    refine code_region ?_
    refine op_v (v_loadA ty47 rfl rfl) rfl ?_
    refine op_call pl113 rfl rfl ((RVars2_does _ (.mk 0 (sidesL c)) (Nat.le_refl _) (by simp [T.size]; omega) _ _ (RepT.mk _ (.mk 0 (sidesL c)) (by unfold InR; simp [T.head]) hs))) Parts.none ?_
    rintro v7 I7 _ hI7 ⟨hv7, rfl⟩
    have e : uvT (.mk 0 (sidesL c)) = uvL [] (sidesL c) := by simp [uvT]
    rw [e] at hv7
    refine op_v (v_assign rfl) rfl ?_
    refine ops_nil ?_
    refine post_next ?_
    refine code_ret ?_
    refine post_ret (rs := [.tmp 2]) rfl (List.Perm.refl _) (.cons (.tmp rfl) .nil) (List.nil_sublist _) ?_
    exact ⟨hv7, rfl⟩
  refine Does.intro Try.func41 rfl Try.ntmps41 rfl fun w0 => ?_
  refine code_seq ?_
  refine code_region ?_
  refine op_v (v_assign rfl) rfl ?_
  refine ops_nil ?_
  refine post_next ?_
  refine code_seq ?_
  refine code_region ?_
  refine op_v (v_move rfl) rfl ?_
  refine op_call pl39 rfl rfl ((Terms_does hv)) Parts.none ?_
  rintro v4 I4 _ hI4 ⟨hs4, rfl⟩
  refine op_call pl67 rfl rfl ((h5 hs4)) Parts.none ?_
  rintro v5 I5 _ hI5 ⟨hv5, rfl⟩
  refine op_v (v_assign rfl) rfl ?_
  refine ops_nil ?_
  refine post_next ?_
  refine code_ret ?_
  refine post_ret (rs := [.tmp 2]) rfl (List.Perm.refl _) (.cons (.tmp rfl) .nil) (List.nil_sublist _) ?_
  exact ⟨hv5, rfl⟩
theorem lfew10_does {I : Imm} {vg va vb : Value} {gs : List Sy} {c d : List Li} (hg : RepG I vg gs) (ha : RepC I va c) (hb : RepC I vb d) :
    Does Try.prog 40 [vg, va, vb] I [] (fun v I' δ' => (∃ b, v = .bool b ∧ (b = true → FewC c ∧ FewC d)) ∧ δ' = []) := by
  refine Does.intro Try.func40 rfl Try.ntmps40 rfl fun w0 => ?_
  refine code_seq ?_
  refine code_region ?_
  refine op_v (v_assign rfl) rfl ?_
  refine ops_nil ?_
  refine post_next ?_
  refine code_seq ?_
  refine code_region ?_
  refine op_v (v_move rfl) rfl ?_
  refine op_call pl14 rfl rfl ((FewG_does hg)) Parts.none ?_
  rintro v8 I8 _ hI8 ⟨rfl, rfl⟩
  by_cases h9 : fewG gs = true
  · rw [h9]
    refine op_v (v_move rfl) rfl ?_
    first
      | (refine op_want rfl rfl ?_
         refine op_v (v_move rfl) rfl ?_)
      | (refine op_skip rfl rfl (by simp [undef]) rfl ?_)
    first
      | (refine op_want rfl rfl ?_
         refine op_call pl28 rfl rfl ((Few10_does (ha.mono Imm.leA))) Parts.none ?_
         rintro v11 I11 _ hI11 ⟨⟨b11, rfl, hb11⟩, rfl⟩)
      | (refine op_skip rfl rfl (by simp [undef]) rfl ?_)
    first | refine op_v (v_pickt rfl rfl) rfl ?_ | refine op_v (v_pickf rfl rfl) rfl ?_ | refine op_v (v_pickb rfl rfl rfl) rfl ?_
    by_cases h13 : b11 = true
    · subst h13
      refine op_v (v_move rfl) rfl ?_
      first
        | (refine op_want rfl rfl ?_
           refine op_v (v_move rfl) rfl ?_)
        | (refine op_skip rfl rfl (by simp [undef]) rfl ?_)
      first
        | (refine op_want rfl rfl ?_
           refine op_call pl28 rfl rfl ((Few10_does (hb.mono Imm.leA))) Parts.none ?_
           rintro v15 I15 _ hI15 ⟨⟨b15, rfl, hb15⟩, rfl⟩)
        | (refine op_skip rfl rfl (by simp [undef]) rfl ?_)
      first | refine op_v (v_pickt rfl rfl) rfl ?_ | refine op_v (v_pickf rfl rfl) rfl ?_ | refine op_v (v_pickb rfl rfl rfl) rfl ?_
      refine op_v (v_assign rfl) rfl ?_
      refine ops_nil ?_
      refine post_next ?_
      refine code_ret ?_
      refine post_ret (rs := [.tmp 6]) rfl (List.Perm.refl _) (.cons (.tmp rfl) .nil) (List.nil_sublist _) ?_
      exact ⟨⟨b15, rfl, fun h => ⟨hb11 rfl, hb15 h⟩⟩, rfl⟩
    · have h13' : b11 = false := by simpa using h13
      subst h13'
      refine op_v (v_move rfl) rfl ?_
      first
        | (refine op_want rfl rfl ?_
           refine op_v (v_move rfl) rfl ?_)
        | (refine op_skip rfl rfl (by simp [undef]) rfl ?_)
      first
        | (refine op_want rfl rfl ?_
           refine op_call pl28 rfl rfl ((Few10_does (hb.mono Imm.leA))) Parts.none ?_
           rintro v15 I15 _ hI15 ⟨⟨b15, rfl, hb15⟩, rfl⟩)
        | (refine op_skip rfl rfl (by simp [undef]) rfl ?_)
      first | refine op_v (v_pickt rfl rfl) rfl ?_ | refine op_v (v_pickf rfl rfl) rfl ?_ | refine op_v (v_pickb rfl rfl rfl) rfl ?_
      refine op_v (v_assign rfl) rfl ?_
      refine ops_nil ?_
      refine post_next ?_
      refine code_ret ?_
      refine post_ret (rs := [.tmp 6]) rfl (List.Perm.refl _) (.cons (.tmp rfl) .nil) (List.nil_sublist _) ?_
      exact ⟨⟨false, rfl, fun h => by cases h⟩, rfl⟩
  · have h9' : fewG gs = false := by simpa using h9
    rw [h9']
    refine op_v (v_move rfl) rfl ?_
    first
      | (refine op_want rfl rfl ?_
         refine op_v (v_move rfl) rfl ?_)
      | (refine op_skip rfl rfl (by simp [undef]) rfl ?_)
    first
      | (refine op_want rfl rfl ?_
         refine op_call pl28 rfl rfl ((Few10_does (ha.mono Imm.leA))) Parts.none ?_
         rintro v11 I11 _ hI11 ⟨⟨b11, rfl, hb11⟩, rfl⟩)
      | (refine op_skip rfl rfl (by simp [undef]) rfl ?_)
    first | refine op_v (v_pickt rfl rfl) rfl ?_ | refine op_v (v_pickf rfl rfl) rfl ?_ | refine op_v (v_pickb rfl rfl rfl) rfl ?_
    refine op_v (v_move rfl) rfl ?_
    first
      | (refine op_want rfl rfl ?_
         refine op_v (v_move rfl) rfl ?_)
      | (refine op_skip rfl rfl (by simp [undef]) rfl ?_)
    first
      | (refine op_want rfl rfl ?_
         refine op_call pl28 rfl rfl ((Few10_does (hb.mono Imm.leA))) Parts.none ?_
         rintro v15 I15 _ hI15 ⟨⟨b15, rfl, hb15⟩, rfl⟩)
      | (refine op_skip rfl rfl (by simp [undef]) rfl ?_)
    first | refine op_v (v_pickt rfl rfl) rfl ?_ | refine op_v (v_pickf rfl rfl) rfl ?_ | refine op_v (v_pickb rfl rfl rfl) rfl ?_
    refine op_v (v_assign rfl) rfl ?_
    refine ops_nil ?_
    refine post_next ?_
    refine code_ret ?_
    refine post_ret (rs := [.tmp 6]) rfl (List.Perm.refl _) (.cons (.tmp rfl) .nil) (List.nil_sublist _) ?_
    exact ⟨⟨false, rfl, fun h => by cases h⟩, rfl⟩
/-! ### plain: without variables -/
theorem uniL_nil {acc l : List Int} (h : uniL acc l = []) : acc = [] ∧ l = [] := by
  have key : ∀ v, ¬ (v ∈ acc ∨ v ∈ l) := fun v hv => by
    have := (uniL_mem acc l v).2 hv
    rw [h] at this; cases this
  exact ⟨List.eq_nil_iff_forall_not_mem.2 fun v hv => key v (.inl hv), List.eq_nil_iff_forall_not_mem.2 fun v hv => key v (.inr hv)⟩
theorem hdsL_eq2 : ∀ ts : List T, (visL ts).map (·.2.head) = ts.flatMap hds
  | [] => rfl
  | t :: r => by
    rw [visL, List.map_append, hdsL_eq2 r, List.flatMap_cons]
    congr 1
    unfold hds
    rw [visT_eq, visT_eq]; rfl
theorem hds_eq2 (h : Int) (ts : List T) : hds (.mk h ts) = h :: ts.flatMap hds := by
  have : hds (.mk h ts) = h :: (visL ts).map (·.2.head) := by unfold hds; rw [visT_eq]; rfl
  rw [this, hdsL_eq2]
mutual
theorem uvT_nil : ∀ (t : T), uvT t = [] → ∀ k ∈ hds t, 0 ≤ k
  | .mk h ts, e => by
    simp only [uvT] at e
    have h1 := uvL_nil ts _ e
    intro k hk
    rw [hds_eq2, List.mem_cons] at hk
    rcases hk with rfl | hk
    · by_cases q : k < 0
      · rw [if_pos q] at h1; simp at h1
      · omega
    · exact h1.2 k hk
theorem uvL_nil : ∀ (ts : List T) (acc : List Int), uvL acc ts = [] → acc = [] ∧ ∀ k ∈ ts.flatMap hds, 0 ≤ k
  | [], acc, e => ⟨by simpa [uvL] using e, fun k hk => by simp at hk⟩
  | t :: r, acc, e => by
    simp only [uvL] at e
    obtain ⟨h1, h2⟩ := uvL_nil r _ e
    obtain ⟨h3, h4⟩ := uniL_nil h1
    have h5 := uvT_nil t h4
    refine ⟨h3, fun k hk => ?_⟩
    rw [List.flatMap_cons] at hk
    rcases List.mem_append.1 hk with h | h
    · exact h5 k h
    · exact h2 k h
end
def GrC (c : List Li) : Prop := ∀ x ∈ c, (∀ k ∈ hds x.l, 0 ≤ k) ∧ ∀ k ∈ hds x.r, 0 ≤ k
theorem GrC_of {c : List Li} (h : uvL [] (sidesL c) = []) : GrC c := fun x hx => by
  have := (uvL_nil _ _ h).2
  have hm : ∀ t, t = x.l ∨ t = x.r → ∀ k ∈ hds t, 0 ≤ k := fun t ht k hk => this k (List.mem_flatMap.2 ⟨t, List.mem_flatMap.2 ⟨x, hx, by rcases ht with rfl | rfl <;> simp⟩, hk⟩)
  exact ⟨hm _ (.inl rfl), hm _ (.inr rfl)⟩
theorem varsP_none {t : T} (h : ∀ k ∈ hds t, 0 ≤ k) : varsP (partsT 1 t) = [] := by
  have key : ∀ l : List (Nat × T), (∀ x ∈ l, 0 ≤ x.2.head) → varsP l = [] := by
    intro l
    induction l using snoc_ind with
    | h0 => intro _; rfl
    | h1 l y ih =>
      intro hl
      rw [varsP_snoc, ih fun x hx => hl x (List.mem_append_left _ hx), if_neg]
      intro q
      have := hl y (by simp)
      omega
  refine key _ fun x hx => ?_
  have h2 : x.2 ∈ (partsT 1 t).map (·.2) := List.mem_map_of_mem (f := fun x : Nat × T => x.2) hx
  rw [snd_T 1 true t] at h2
  obtain ⟨y, hy, e⟩ := List.mem_map.1 h2
  rw [← e]
  exact h _ (List.mem_map_of_mem (f := fun x : Bool × T => x.2.head) hy)
theorem varsC_none {c : List Li} (h : GrC c) : varsC c = [] := by
  have key : ∀ ts : List T, (∀ t ∈ ts, varsP (partsT 1 t) = []) → varsGo [] ts = [] := by
    intro ts
    induction ts with
    | nil => intro _; rfl
    | cons t r ih =>
      intro ht
      show varsGo (uniL [] (varsP (partsT 1 t))) r = []
      rw [ht t (List.mem_cons_self ..)]
      exact ih fun u hu => ht u (List.mem_cons_of_mem _ hu)
  refine key _ fun t ht => ?_
  obtain ⟨x, hx, e⟩ := List.mem_flatMap.1 ht
  simp at e
  rcases e with rfl | rfl
  · exact varsP_none (h x hx).1
  · exact varsP_none (h x hx).2
theorem mulG_X (gs : List Sy) (a b : List T) : mulG gs a b = mulX (fun x y => decide (stT gs x y = 1)) a b := by
  have h1 : ∀ l m : List T, rsL l m = rsX l m := fun l => by
    induction l with
    | nil => intro m; rfl
    | cons t r ih => intro m; simp only [rsL, rsX, ih]
  unfold mulG mulX overL overX
  simp only [h1]
theorem stT_ord (gs : List Sy) : OrdX (fun x y : T => decide (stT gs x y = 1)) (OkG gs) where
  irr := fun x => by rw [stT_self]; rfl
  tr := fun x y z hx hy hz h k => by
    rw [decide_eq_true_eq] at *
    exact stT_trans _ _ _ _ (Nat.le_refl _) hx hy hz h k
theorem gtL_total {gs : List Sy} {x y : Li} (hx : OkL gs x ∧ GrC [x]) (hy : OkL gs y ∧ GrC [y]) (h : sameL x y = false) : gtL gs x y = true ∨ gtL gs y x = true := by
  have hgx := hx.2 x (by simp)
  have hgy := hy.2 y (by simp)
  have hrow : ∀ {z : Li}, OkL gs z → ((∀ k ∈ hds z.l, 0 ≤ k) ∧ ∀ k ∈ hds z.r, 0 ≤ k) → ∀ t ∈ rowL z, OkG gs t ∧ ∀ k ∈ hds t, 0 ≤ k := fun hz hg t ht => by
    rcases rowL_mem ht with rfl | rfl
    · exact ⟨hz.1, hg.1⟩
    · exact ⟨hz.2, hg.2⟩
  have hne : mulG gs (rowL x) (rowL y) ≠ 0 := fun e => by
    rw [rowL_perm.1 (mulG_zero.1 e)] at h; cases h
  have hn2 : mulG gs (rowL x) (rowL y) ≠ 2 := by
    rw [mulG_X]
    refine mulX_total (Ok := fun t => OkG gs t ∧ ∀ k ∈ hds t, 0 ≤ k) ⟨(stT_ord gs).irr, fun x y z hx hy hz => (stT_ord gs).tr x y z hx.1 hy.1 hz.1⟩ (fun s t hs ht hst => ?_) (hrow hx.1 hgx) (hrow hy.1 hgy)
    have h2 := stT_ground _ s t (Nat.le_refl _) hs.1 ht.1 hs.2 ht.2
    have hv := stT_vals gs s t
    have h0 : stT gs s t ≠ 0 := fun e => hst (stT_zero hs.1 ht.1 e)
    have hneg := stT_neg gs s t
    rcases hv with e | e | e | e
    · exact absurd e h0
    · left; rw [decide_eq_true_eq]; exact e
    · right; rw [decide_eq_true_eq, hneg, e]; rfl
    · exact absurd e h2
  rw [mulG_X] at hne hn2
  unfold gtL
  rw [decide_eq_true_eq, decide_eq_true_eq, mulG_X, mulG_X]
  rcases mulX_vals (g := fun x y => decide (stT gs x y = 1)) (rowL x) (rowL y) with e | e | e | e
  · exact absurd e hne
  · exact .inl e
  · exact .inr (mulX_less e)
  · exact absurd e hn2
theorem cmpC_ground {gs : List Sy} {c d : List Li} (hc : ∀ x ∈ c, OkL gs x) (hd : ∀ x ∈ d, OkL gs x) (hgc : GrC c) (hgd : GrC d) : cmpC gs c d ≠ 2 := by
  refine mulX_total (Ok := fun k => OkL gs k ∧ GrC [k] ∧ canL k = k) ⟨(gtL_ord gs).irr, fun x y z hx hy hz => (gtL_ord gs).tr x y z hx.1 hy.1 hz.1⟩ (fun x y hx hy hxy => ?_) ?_ ?_
  · refine gtL_total ⟨hx.1, hx.2.1⟩ ⟨hy.1, hy.2.1⟩ ?_
    cases h : sameL x y
    · rfl
    · exact absurd (by rw [← hx.2.2, ← hy.2.2]; exact canL_eq.2 h) hxy
  all_goals
    intro k hk
    obtain ⟨x, hx, rfl⟩ := List.mem_map.1 hk
    refine ⟨OkL.can (by first | exact hc x hx | exact hd x hx), fun y hy => ?_, canL_eq.2 (sameL_symm (canL_same x))⟩
    simp at hy; subst hy
    have hgx : (∀ k ∈ hds x.l, 0 ≤ k) ∧ ∀ k ∈ hds x.r, 0 ≤ k := by first | exact hgc x hx | exact hgd x hx
    unfold canL
    split
    · exact ⟨hgx.2, hgx.1⟩
    · exact hgx
end Go.Proofs.Ytdbadicpbmndbaa
/- Terms and clauses with other variables: plainly, and walks: Shift, Apart. -/
set_option linter.unusedVariables false
set_option linter.unusedSimpArgs false
set_option linter.unnecessarySimpa false
/- short -/
namespace Go.Proofs.Ytdbadicpbmndbaa
open Go Lg

/-! ### plain -/
def shF (n : Int) (t : T) : T := .mk (t.head - n) []
def shT (n : Int) (t : T) : T := rbT (shF n) t
theorem shT_size (n : Int) (t : T) : (shT n t).size ≤ t.size := by
  have := rb_sizeT (shF n) 1 (Nat.le_refl _) (fun t _ => by have := t.size_pos; simp [shF, T.size, sizeL]; omega) t
  unfold shT; omega
def shE (n : Int) (t : T) : Int := if chkT t ≠ 0 then 1 else if n < 0 then 1 else if 255 < n then 1 else chkT (shT n t)
def byL (l : List Int) : Int := l.foldl (fun a v => max a (v + 1)) 0
theorem byL_take (l : List Int) (k : Nat) (h : k < l.length) : byL (l.take (k + 1)) = max (byL (l.take k)) (l[k] + 1) := by
  unfold byL; rw [List.take_succ_eq_append_getElem h, List.foldl_append]; rfl
theorem byL_nonneg (l : List Int) : 0 ≤ byL l := by
  have key : ∀ (l : List Int) (a : Int), a ≤ l.foldl (fun a v => max a (v + 1)) a := by
    intro l
    induction l with
    | nil => intro a; exact Int.le_refl _
    | cons x r ih => intro a; exact Int.le_trans (by omega) (ih (max a (x + 1)))
  exact key l 0
theorem byL_lt : ∀ {l : List Int} {v : Int}, v ∈ l → v < byL l := by
  have mono : ∀ (l : List Int) (a : Int), a ≤ l.foldl (fun a v => max a (v + 1)) a := by
    intro l
    induction l with
    | nil => intro a; exact Int.le_refl _
    | cons x r ih => intro a; exact Int.le_trans (by omega) (ih (max a (x + 1)))
  have key : ∀ (l : List Int) (a v : Int), v ∈ l → v < l.foldl (fun a v => max a (v + 1)) a := by
    intro l
    induction l with
    | nil => intro a v h; cases h
    | cons x r ih =>
      intro a v h
      rcases List.mem_cons.1 h with rfl | h
      · have := mono r (max a (v + 1))
        show v < r.foldl _ (max a (v + 1))
        omega
      · exact ih _ v h
  intro l v h
  exact key l 0 v h
/-- has variables -/
def anyV (t : T) : Bool := decide (0 < (varsP (partsT 1 t)).length)
def apT (n : Int) (t : T) : T := if anyV t = true then shT n t else t
def apBad (n : Int) (t : T) : Bool := anyV t && decide (shE n t ≠ 0)
def apartC (c d : List Li) : List Li := ofL d ((renL [] (sidesL d)).1.map (apT (byL (varsC c))))
def apartE (c d : List Li) : Bool := (sidesL d).any badT || ((sidesL c).any badT || (renL [] (sidesL d)).1.any (apBad (byL (varsC c))))
theorem mid_get {α : Type} (f : α → α) (L : List α) (k : Nat) (h : k < L.length) : ((L.take k).map f ++ L.drop k)[k]'(by simp; omega) = L[k] := by
  rw [List.getElem_append_right (by simp; omega)]
  simp [Nat.min_eq_left (Nat.le_of_lt h)]
theorem mid_set {α : Type} (f : α → α) (L : List α) (k : Nat) (h : k < L.length) : ((L.take k).map f ++ L.drop k).set k (f L[k]) = (L.take (k + 1)).map f ++ L.drop (k + 1) := by
  have e : ((L.take k).map f).length = k := by simp; omega
  rw [List.set_append_right _ _ (by omega), e, Nat.sub_self, List.drop_eq_getElem_cons h, List.set_cons_zero, List.take_succ_eq_append_getElem h, List.map_append]
  simp
theorem mid_keep {α : Type} (f : α → α) (L : List α) (k : Nat) (h : k < L.length) (e : f L[k] = L[k]) : (L.take k).map f ++ L.drop k = (L.take (k + 1)).map f ++ L.drop (k + 1) := by
  rw [List.drop_eq_getElem_cons h, List.take_succ_eq_append_getElem h, List.map_append]
  simp [e]
theorem RowT.rowE {I : Imm} : ∀ {ts : List T} {xs : List Value}, RowT I xs ts → RowE TermE I xs ts
  | [], xs, h => List.eq_nil_of_length_eq_zero (by simpa using h.1)
  | t :: r, [], h => by have := h.1; simp at this
  | t :: r, [_], h => by have := h.1; simp at this; omega
  | t :: r, x :: y :: zs, h => by
    obtain ⟨s, h1, h2, h3⟩ := h.2 0 (by simp)
    simp at h1 h2 h3
    subst h1; subst h2
    refine ⟨[_, _], zs, rfl, ⟨s.1, s.2, rfl, h3⟩, RowT.rowE ⟨by have := h.1; simp at this; omega, fun i hi => ?_⟩⟩
    obtain ⟨s, k1, k2, k3⟩ := h.2 (i + 1) (by simpa using hi)
    refine ⟨s, ?_, ?_, by simpa using k3⟩
    · have e : (i + 1) * 2 = i * 2 + 1 + 1 := by omega
      rw [e] at k1; simpa using k1
    · have e : (i + 1) * 2 + 1 = i * 2 + 1 + 1 + 1 := by omega
      rw [e] at k2; simpa using k2
theorem sizeL_getR (ns : List Int) (ts : List T) : sizeL (renL ns ts).1 ≤ sizeL ts := by
  have key : ∀ (n : Nat), (∀ (t : T) (ns : List Int), t.size ≤ n → (renT ns t).1.size ≤ t.size) ∧ ∀ (ts : List T) (ns : List Int), sizeL ts ≤ n → sizeL (renL ns ts).1 ≤ sizeL ts := by
    intro n
    induction n with
    | zero =>
      refine ⟨fun t ns h => by have := t.size_pos; omega, fun ts ns h => ?_⟩
      cases ts with
      | nil => simp [renL]
      | cons t r => have := t.size_pos; simp [sizeL] at h; omega
    | succ n ih =>
      have hT : ∀ (t : T) (ns : List Int), t.size ≤ n + 1 → (renT ns t).1.size ≤ t.size := fun t ns h => by
        obtain ⟨k, ts⟩ := t
        simp only [T.size] at h
        simp only [renT]
        split
        · simp [T.size, sizeL]
        · have := ih.2 ts ns (by omega)
          simp only [T.size]; omega
      refine ⟨hT, fun ts => ?_⟩
      induction ts with
      | nil => intro ns _; simp [renL]
      | cons t r ihr =>
        intro ns h
        simp only [sizeL] at h
        have h1 := hT t ns (by omega)
        have h2 := ihr (renT ns t).2 (by omega)
        simp only [renL, sizeL]; omega
  exact (key (sizeL ts)).2 ts ns (Nat.le_refl _)
def shW (n : Int) (t : T) : T := .mk (IntKind.i64.wrap (t.head - n)) []
theorem wrap_in (x : Int) : InR (IntKind.i64.wrap x) := by unfold InR; rw [IntKind.wrap_i64]; omega
mutual
theorem shW_T {n : Int} (hn : 0 ≤ n ∧ n ≤ 255) : ∀ t : T, (∀ k ∈ hds t, -256 ≤ k) → rbT (shW n) t = rbT (shF n) t
  | .mk h us, hk => by
    rw [hds_eq2] at hk
    simp only [rbT]
    split
    · rename_i hneg
      have : -256 ≤ h := hk h (List.mem_cons_self ..)
      simp only [shW, shF, T.head]; rw [wrap_id ⟨by omega, by omega⟩]
    · rw [shW_L hn us fun k hk' => hk k (List.mem_cons_of_mem _ hk')]
theorem shW_L {n : Int} (hn : 0 ≤ n ∧ n ≤ 255) : ∀ us : List T, (∀ k ∈ us.flatMap hds, -256 ≤ k) → rbL (shW n) us = rbL (shF n) us
  | [], _ => rfl
  | t :: r, hk => by
    rw [List.flatMap_cons] at hk
    simp only [rbL]
    rw [shW_T hn t fun k h => hk k (List.mem_append_left _ h), shW_L hn r fun k h => hk k (List.mem_append_right _ h)]
end
theorem chk_hds {t : T} (h : chkT t = 0) : ∀ k ∈ hds t, -256 ≤ k := fun k hk => by
  obtain ⟨x, hx, rfl⟩ := List.mem_map.1 hk
  exact (chk_vis h x hx).2
theorem varsP_get : ∀ {l : List (Nat × T)} {v : Int}, v ∈ varsP l → ∃ x ∈ l, x.2.head = -1 - v ∧ 0 ≤ v := by
  intro l
  induction l using snoc_ind with
  | h0 => intro v h; cases h
  | h1 l y ih =>
    intro v h
    rw [varsP_snoc] at h
    split at h
    · rename_i hy
      rcases List.mem_append.1 h with h | h
      · obtain ⟨x, hx, e⟩ := ih h; exact ⟨x, List.mem_append_left _ hx, e⟩
      · simp at h; subst h
        exact ⟨y, by simp, by omega, hy.1⟩
    · obtain ⟨x, hx, e⟩ := ih h; exact ⟨x, List.mem_append_left _ hx, e⟩
theorem parts_hds {t : T} {x : Nat × T} (hx : x ∈ partsT 1 t) : x.2.head ∈ hds t := by
  have h2 : x.2 ∈ (partsT 1 t).map (·.2) := List.mem_map_of_mem (f := fun x : Nat × T => x.2) hx
  rw [snd_T 1 true t] at h2
  obtain ⟨y, hy, e⟩ := List.mem_map.1 h2
  rw [← e]; exact List.mem_map_of_mem (f := fun x : Bool × T => x.2.head) hy
theorem varsGo_get : ∀ {ts : List T} {acc : List Int} {v : Int}, v ∈ varsGo acc ts → v ∈ acc ∨ ∃ t ∈ ts, v ∈ varsP (partsT 1 t)
  | [], acc, v, h => .inl h
  | t :: r, acc, v, h => by
    rcases varsGo_get (ts := r) (acc := uniL acc (varsP (partsT 1 t))) h with h | ⟨u, hu, h⟩
    · rcases (uniL_mem _ _ _).1 h with h | h
      · exact .inl h
      · exact .inr ⟨t, List.mem_cons_self .., h⟩
    · exact .inr ⟨u, List.mem_cons_of_mem _ hu, h⟩
theorem varsC_in {c : List Li} (h : (sidesL c).any badT = false) : ∀ v ∈ varsC c, 0 ≤ v ∧ v ≤ 255 := fun v hv => by
  rcases varsGo_get hv with h | ⟨t, ht, hv⟩
  · cases h
  · obtain ⟨x, hx, e, h0⟩ := varsP_get hv
    have hb : badT t = false := by simpa using List.any_eq_false.1 h t ht
    have hc : chkT t = 0 := by unfold badT at hb; simpa using hb
    have := chk_hds hc _ (parts_hds hx)
    omega
/-! ### walks -/
theorem shiftOf_does {I : Imm} {n : Int} {v : Value} {t : T} (hv : RepT I v t) :
    Does Try.prog 145 [.int .i64 n, v] I [] (fun v I' δ' => RepT I' v (shW n t) ∧ δ' = []) := by
  obtain ⟨a0, c0, rfl, hr0⟩ := hv.shape
  refine Does.intro Try.func145 rfl Try.ntmps145 rfl fun w0 => ?_
  refine code_seq ?_
  refine code_region ?_
  refine o_box rfl rfl rfl (fun b3 => ?_)
  refine o_alloc z47 rfl rfl (fun b4 => ?_)
  refine ops_nil ?_
  refine post_next ?_
  refine code_seq ?_
  refine code_region ?_
  first | refine op_v (v_fieldB 0 Try.underlying47 rfl rfl fz3 rfl) rfl ?_ | refine op_v (v_fieldI 0 Try.underlying47 rfl rfl fz3 rfl (by assumption)) rfl ?_ | refine op_v (v_field Try.underlying47 rfl fz3 rfl rfl) rfl ?_
  refine op_v (v_loadA ty3 rfl rfl) rfl ?_
  refine op_v (v_move rfl) rfl ?_
  refine op_v (v_sub rfl rfl) rfl ?_
  refine op_v (v_build bl47 rfl rfl) rfl ?_
  refine o_store ty47 rfl rfl rfl rfl rfl (by repeat (first | exact Swap.here | apply Swap.there)) rfl ?_
  refine ops_nil ?_
  refine post_next ?_
  refine code_ret ?_
  refine post_ret (rs := [.cell 4 47]) rfl (List.Perm.refl _) (.cons (.cell rfl ty47 (by repeat (first | exact Has.here | apply Has.there)) rfl) .nil) (List.nil_sublist _) ?_
  exact ⟨RepT.mk _ (shW n t) (wrap_in _) (RepS.nil _), rfl⟩
theorem Shift_does {I : Imm} {n : Int} {v : Value} {t : T} (hv : RepT I v t) (hbig : t.size ≤ 1000000000) :
    Does Try.prog 106 [v, .int .i64 n] I [] (fun v I' δ' => (∃ u, v = .tuple #[u, .int .i64 (shE n t)] ∧ RepT I' u (if shE n t = 0 then shT n t else zeroT)) ∧ δ' = []) := by
  obtain ⟨a0, c0, rfl, hr0⟩ := hv.shape
  refine Does.intro Try.func106 rfl Try.ntmps106 rfl fun w0 => ?_
  refine code_seq ?_
  refine code_region ?_
  refine o_box rfl rfl rfl (fun b2 => ?_)
  refine o_alloc z47 rfl rfl (fun b4 => ?_)
  refine op_v (v_assign rfl) rfl ?_
  refine ops_nil ?_
  refine post_next ?_
  refine code_seq ?_
  refine code_seq ?_
  refine code_region ?_
  refine op_v (v_loadA ty47 rfl rfl) rfl ?_
  refine op_call pl105 rfl rfl ((TCheck_does hv hbig)) Parts.none ?_
  rintro v7 I7 _ hI7 ⟨rfl, rfl⟩
  by_cases h8 : chkT t ≠ 0
  · have he : shE n t = 1 := if_pos h8
    first | refine op_v (v_cmptA rfl rfl rfl) rfl ?_ | refine op_v (v_cmpfA rfl rfl rfl) rfl ?_ | refine op_v (v_cmp rfl rfl rfl) rfl ?_
    refine op_v (v_move rfl) rfl ?_
    first
      | (refine op_want rfl rfl ?_
         refine op_v (v_move rfl) rfl ?_)
      | (refine op_skip rfl rfl (by simp [undef]) rfl ?_)
    first
      | (refine op_want rfl rfl ?_
         first | refine op_v (v_cmptA rfl rfl rfl) rfl ?_ | refine op_v (v_cmpfA rfl rfl rfl) rfl ?_ | refine op_v (v_cmp rfl rfl rfl) rfl ?_)
      | (refine op_skip rfl rfl (by simp [undef]) rfl ?_)
    first | refine op_v (v_pickt rfl rfl) rfl ?_ | refine op_v (v_pickf rfl rfl) rfl ?_ | refine op_v (v_pickb rfl rfl rfl) rfl ?_
    refine op_v (v_move rfl) rfl ?_
    first
      | (refine op_want rfl rfl ?_
         refine op_v (v_move rfl) rfl ?_)
      | (refine op_skip rfl rfl (by simp [undef]) rfl ?_)
    first
      | (refine op_want rfl rfl ?_
         first | refine op_v (v_cmptA rfl rfl rfl) rfl ?_ | refine op_v (v_cmpfA rfl rfl rfl) rfl ?_ | refine op_v (v_cmp rfl rfl rfl) rfl ?_)
      | (refine op_skip rfl rfl (by simp [undef]) rfl ?_)
    first | refine op_v (v_pickt rfl rfl) rfl ?_ | refine op_v (v_pickf rfl rfl) rfl ?_ | refine op_v (v_pickb rfl rfl rfl) rfl ?_
    refine ops_nil ?_
    refine post_next ?_
    refine code_cond_t rfl ?_
    refine code_seq ?_
    refine code_region ?_
    refine op_v (v_build bl47 rfl rfl) rfl ?_
    refine o_store ty47 rfl rfl rfl rfl rfl (by repeat (first | exact Swap.here | apply Swap.there)) rfl ?_
    refine op_v (v_assign rfl) rfl ?_
    refine ops_nil ?_
    refine post_next ?_
    refine code_ret ?_
    refine post_ret_then ?_
    refine post_ret (rs := [.cell 4 47, .tmp 5]) rfl (List.Perm.refl _) (.cons (.cell rfl ty47 (by repeat (first | exact Has.here | apply Has.there)) rfl) (.cons (.tmp rfl) .nil)) (List.nil_sublist _) ?_
    exact ⟨⟨_, by rw [he]; rfl, by rw [he, if_neg (by decide)]; exact zeroT_rep _⟩, rfl⟩
  · first | refine op_v (v_cmptA rfl rfl rfl) rfl ?_ | refine op_v (v_cmpfA rfl rfl rfl) rfl ?_ | refine op_v (v_cmp rfl rfl rfl) rfl ?_
    refine op_v (v_move rfl) rfl ?_
    first
      | (refine op_want rfl rfl ?_
         refine op_v (v_move rfl) rfl ?_)
      | (refine op_skip rfl rfl (by simp [undef]) rfl ?_)
    by_cases h11 : n < 0
    · have he : shE n t = 1 := by unfold shE; rw [if_neg h8, if_pos h11]
      first
        | (refine op_want rfl rfl ?_
           first | refine op_v (v_cmptA rfl rfl rfl) rfl ?_ | refine op_v (v_cmpfA rfl rfl rfl) rfl ?_ | refine op_v (v_cmp rfl rfl rfl) rfl ?_)
        | (refine op_skip rfl rfl (by simp [undef]) rfl ?_)
      first | refine op_v (v_pickt rfl rfl) rfl ?_ | refine op_v (v_pickf rfl rfl) rfl ?_ | refine op_v (v_pickb rfl rfl rfl) rfl ?_
      refine op_v (v_move rfl) rfl ?_
      first
        | (refine op_want rfl rfl ?_
           refine op_v (v_move rfl) rfl ?_)
        | (refine op_skip rfl rfl (by simp [undef]) rfl ?_)
      first
        | (refine op_want rfl rfl ?_
           first | refine op_v (v_cmptA rfl rfl rfl) rfl ?_ | refine op_v (v_cmpfA rfl rfl rfl) rfl ?_ | refine op_v (v_cmp rfl rfl rfl) rfl ?_)
        | (refine op_skip rfl rfl (by simp [undef]) rfl ?_)
      first | refine op_v (v_pickt rfl rfl) rfl ?_ | refine op_v (v_pickf rfl rfl) rfl ?_ | refine op_v (v_pickb rfl rfl rfl) rfl ?_
      refine ops_nil ?_
      refine post_next ?_
      refine code_cond_t rfl ?_
      refine code_seq ?_
      refine code_region ?_
      refine op_v (v_build bl47 rfl rfl) rfl ?_
      refine o_store ty47 rfl rfl rfl rfl rfl (by repeat (first | exact Swap.here | apply Swap.there)) rfl ?_
      refine op_v (v_assign rfl) rfl ?_
      refine ops_nil ?_
      refine post_next ?_
      refine code_ret ?_
      refine post_ret_then ?_
      refine post_ret (rs := [.cell 4 47, .tmp 5]) rfl (List.Perm.refl _) (.cons (.cell rfl ty47 (by repeat (first | exact Has.here | apply Has.there)) rfl) (.cons (.tmp rfl) .nil)) (List.nil_sublist _) ?_
      exact ⟨⟨_, by rw [he]; rfl, by rw [he, if_neg (by decide)]; exact zeroT_rep _⟩, rfl⟩
    · first
        | (refine op_want rfl rfl ?_
           first | refine op_v (v_cmptA rfl rfl rfl) rfl ?_ | refine op_v (v_cmpfA rfl rfl rfl) rfl ?_ | refine op_v (v_cmp rfl rfl rfl) rfl ?_)
        | (refine op_skip rfl rfl (by simp [undef]) rfl ?_)
      first | refine op_v (v_pickt rfl rfl) rfl ?_ | refine op_v (v_pickf rfl rfl) rfl ?_ | refine op_v (v_pickb rfl rfl rfl) rfl ?_
      refine op_v (v_move rfl) rfl ?_
      first
        | (refine op_want rfl rfl ?_
           refine op_v (v_move rfl) rfl ?_)
        | (refine op_skip rfl rfl (by simp [undef]) rfl ?_)
      by_cases h15 : 255 < n
      · have he : shE n t = 1 := by unfold shE; rw [if_neg h8, if_neg h11, if_pos h15]
        first
          | (refine op_want rfl rfl ?_
             first | refine op_v (v_cmptA rfl rfl rfl) rfl ?_ | refine op_v (v_cmpfA rfl rfl rfl) rfl ?_ | refine op_v (v_cmp rfl rfl rfl) rfl ?_)
          | (refine op_skip rfl rfl (by simp [undef]) rfl ?_)
        first | refine op_v (v_pickt rfl rfl) rfl ?_ | refine op_v (v_pickf rfl rfl) rfl ?_ | refine op_v (v_pickb rfl rfl rfl) rfl ?_
        refine ops_nil ?_
        refine post_next ?_
        refine code_cond_t rfl ?_
        refine code_seq ?_
        refine code_region ?_
        refine op_v (v_build bl47 rfl rfl) rfl ?_
        refine o_store ty47 rfl rfl rfl rfl rfl (by repeat (first | exact Swap.here | apply Swap.there)) rfl ?_
        refine op_v (v_assign rfl) rfl ?_
        refine ops_nil ?_
        refine post_next ?_
        refine code_ret ?_
        refine post_ret_then ?_
        refine post_ret (rs := [.cell 4 47, .tmp 5]) rfl (List.Perm.refl _) (.cons (.cell rfl ty47 (by repeat (first | exact Has.here | apply Has.there)) rfl) (.cons (.tmp rfl) .nil)) (List.nil_sublist _) ?_
        exact ⟨⟨_, by rw [he]; rfl, by rw [he, if_neg (by decide)]; exact zeroT_rep _⟩, rfl⟩
      · have he : shE n t = chkT (shT n t) := by unfold shE; rw [if_neg h8, if_neg h11, if_neg h15]
        have hw : rbT (shW n) t = shT n t := shW_T ⟨by omega, by omega⟩ t (chk_hds (by omega))
        first
          | (refine op_want rfl rfl ?_
             first | refine op_v (v_cmptA rfl rfl rfl) rfl ?_ | refine op_v (v_cmpfA rfl rfl rfl) rfl ?_ | refine op_v (v_cmp rfl rfl rfl) rfl ?_)
          | (refine op_skip rfl rfl (by simp [undef]) rfl ?_)
        first | refine op_v (v_pickt rfl rfl) rfl ?_ | refine op_v (v_pickf rfl rfl) rfl ?_ | refine op_v (v_pickb rfl rfl rfl) rfl ?_
        refine ops_nil ?_
        refine post_next ?_
        refine code_cond_f rfl ?_
        refine code_skip ?_
        refine post_next ?_
        refine code_seq ?_
        refine code_region ?_
        refine op_v (v_loadA ty47 rfl rfl) rfl ?_
        refine op_v (v_move rfl) rfl ?_
        refine op_v (v_makeFunc rfl rfl) rfl ?_
        refine op_call pl144 rfl rfl ((rebuild_does (I0 := I7) (fun J v u hJ hu => FDoes.ofFirst (firsts := [_]) pl145 (shiftOf_does hu)) t.size t (Nat.le_refl _) _ _ (Imm.le_refl _) (hv.mono Imm.leA))) Parts.none ?_
        rintro v21 I21 _ hI21 ⟨hv21, rfl⟩
        rw [hw] at hv21
        refine op_call pl143 rfl rfl ((end_does hv21 (by have := shT_size n t; omega))) Parts.none ?_
        rintro v22 I22 _ hI22 ⟨⟨u22, rfl, hv22⟩, rfl⟩
        obtain ⟨a22, c22, rfl, _⟩ := hv22.shape
        refine op_v (v_extract rfl rfl) rfl ?_
        refine op_v (v_extract rfl rfl) rfl ?_
        refine o_store ty47 rfl rfl rfl rfl rfl (by repeat (first | exact Swap.here | apply Swap.there)) rfl ?_
        refine op_v (v_assign rfl) rfl ?_
        refine ops_nil ?_
        refine post_next ?_
        refine code_ret ?_
        refine post_ret (rs := [.cell 4 47, .tmp 5]) rfl (List.Perm.refl _) (.cons (.cell rfl ty47 (by repeat (first | exact Has.here | apply Has.there)) rfl) (.cons (.tmp rfl) .nil)) (List.nil_sublist _) ?_
        exact ⟨⟨_, by rw [he]; rfl, by rw [he]; exact hv22⟩, rfl⟩
theorem Apart1_does {I : Imm} {v : Value} {t : T} (hv : RepT I v t) (hbig : t.size ≤ 1000000000) :
    Does Try.prog 104 [v] I [] (fun v _ δ' => v = .bool (badT t) ∧ δ' = []) := by
  obtain ⟨ua, uc, rfl, _⟩ := hv.shape
  refine Does.intro Try.func104 rfl Try.ntmps104 rfl fun w0 => ?_
  refine code_seq ?_
  refine code_region ?_
  refine o_box rfl rfl rfl (fun b1 => ?_)
  refine op_v (v_assign rfl) rfl ?_
  refine ops_nil ?_
  refine post_next ?_
  refine code_seq ?_
  refine code_region ?_
  refine op_v (v_loadA ty47 rfl rfl) rfl ?_
  refine op_call pl105 rfl rfl ((TCheck_does hv hbig)) Parts.none ?_
  rintro v4 I4 _ hI4 ⟨rfl, rfl⟩
  refine op_v (v_cmp (z := badT t) rfl rfl rfl) rfl ?_
  refine op_v (v_assign rfl) rfl ?_
  refine ops_nil ?_
  refine post_next ?_
  refine code_ret ?_
  refine post_ret (rs := [.tmp 2]) rfl (List.Perm.refl _) (.cons (.tmp rfl) .nil) (List.nil_sublist _) ?_
  exact ⟨rfl, rfl⟩
theorem CApart_does {I : Imm} {va vb : Value} {c d : List Li} (ha : RepC I va c) (hb : RepC I vb d) (hsc : sizeL (sidesL c) ≤ 100000) (hsd : sizeL (sidesL d) ≤ 100000) :
    Does Try.prog 53 [va, vb] I [] (fun v I' δ' => ((apartE c d = true ∧ v = .tuple #[.slice none 0 0, .int .i64 1]) ∨ (apartE c d = false ∧ ∃ a k, v = .tuple #[.slice a d.length k, .int .i64 0] ∧ RepC I' (.slice a d.length k) (apartC c d))) ∧ δ' = []) := by
  have hl2 := sidesL_len d
  have hsz := sizeL_getL hsc
  obtain ⟨da, dc, hsh⟩ := RepE.shape hb
  subst hsh
  have hdl := hb.small
  refine Does.intro Try.func53 rfl Try.ntmps53 rfl fun w0 => ?_
  refine code_seq ?_
  refine code_region ?_
  refine op_v (v_assign rfl) rfl ?_
  refine op_v (v_assign rfl) rfl ?_
  refine ops_nil ?_
  refine post_next ?_
  refine code_seq ?_
  refine code_region ?_
  refine op_v (v_move rfl) rfl ?_
  refine op_call pl85 rfl rfl ((Cterms_does hb)) Parts.none ?_
  rintro v15 I15 _ hI15 ⟨hs15, rfl⟩
  refine op_call pl84 rfl rfl ((MNorm_does hs15 hsd)) Parts.none ?_
  rintro v16 I16 δ16 hI16 HR16
  refine op_v (v_move rfl) rfl ?_
  rcases HR16 with ⟨hbad, rfl, rfl⟩ | ⟨hgood, a16, c16, zs, rfl, hz, rfl⟩
  · refine op_v (v_extract rfl rfl) rfl ?_
    refine op_v (v_extract rfl rfl) rfl ?_
    refine op_v (v_assign rfl) rfl ?_
    refine op_v (v_assign rfl) rfl ?_
    refine ops_nil ?_
    refine post_next ?_
    refine code_seq ?_
    refine code_seq ?_
    refine code_region ?_
    refine op_v (v_move rfl) rfl ?_
    first | refine op_v (v_cmptA rfl rfl rfl) rfl ?_ | refine op_v (v_cmpfA rfl rfl rfl) rfl ?_ | refine op_v (v_cmp rfl rfl rfl) rfl ?_
    refine op_v (v_move rfl) rfl ?_
    first
      | (refine op_want rfl rfl ?_
         refine op_v (v_move rfl) rfl ?_)
      | (refine op_skip rfl rfl (by simp [undef]) rfl ?_)
    first
      | (refine op_want rfl rfl ?_
         refine op_call pl85 rfl rfl ((Cterms_does (ha.mono Imm.leA))) Parts.none ?_
         rintro v23 I23 _ hI23 ⟨hs23, rfl⟩)
      | (refine op_skip rfl rfl (by simp [undef]) rfl ?_)
    first
      | (refine op_want rfl rfl ?_
         refine op_call pl103 rfl rfl ((ContT_does (p := badT) hs23 (fun J u t hJ hu ht => Does.toF (args := [_]) (by kernel_rfl) (Apart1_does hu (by have := hsz t ht; omega))))) Parts.none ?_
         rintro v24 I24 _ hI24 ⟨rfl, rfl⟩)
      | (refine op_skip rfl rfl (by simp [undef]) rfl ?_)
    first | refine op_v (v_pickt rfl rfl) rfl ?_ | refine op_v (v_pickf rfl rfl) rfl ?_ | refine op_v (v_pickb rfl rfl rfl) rfl ?_
    refine ops_nil ?_
    refine post_next ?_
    refine code_cond_t rfl ?_
    refine code_seq ?_
    refine code_region ?_
    refine op_v (v_assign rfl) rfl ?_
    refine op_v (v_assign rfl) rfl ?_
    refine ops_nil ?_
    refine post_next ?_
    refine code_ret ?_
    refine post_ret_then ?_
    refine post_ret (rs := [.tmp 4, .tmp 5]) rfl (List.Perm.refl _) (.cons (.tmp rfl) (.cons (.tmp rfl) .nil)) (List.nil_sublist _) ?_
    exact ⟨.inl ⟨by unfold apartE; rw [hbad]; rfl, rfl⟩, rfl⟩
  · obtain ⟨L, hL⟩ : ∃ L, L = (renL [] (sidesL d)).1 := ⟨_, rfl⟩
    have hLl : L.length = (sidesL d).length := by rw [hL]; exact renL_len _ _
    rw [← hL] at hz
    have hzE := RowT.rowE hz
    have hLs : sizeL L ≤ sizeL (sidesL d) := by rw [hL]; exact sizeL_getR _ _
    obtain ⟨N, hN⟩ : ∃ N, N = byL (varsC c) := ⟨_, rfl⟩
    refine op_v (v_extract rfl rfl) rfl ?_
    refine op_v (v_extract rfl rfl) rfl ?_
    refine op_v (v_assign rfl) rfl ?_
    refine op_v (v_assign rfl) rfl ?_
    refine ops_nil ?_
    refine post_next ?_
    refine code_seq ?_
    refine code_seq ?_
    refine code_region ?_
    refine op_v (v_move rfl) rfl ?_
    first | refine op_v (v_cmptA rfl rfl rfl) rfl ?_ | refine op_v (v_cmpfA rfl rfl rfl) rfl ?_ | refine op_v (v_cmp rfl rfl rfl) rfl ?_
    refine op_v (v_move rfl) rfl ?_
    first
      | (refine op_want rfl rfl ?_
         refine op_v (v_move rfl) rfl ?_)
      | (refine op_skip rfl rfl (by simp [undef]) rfl ?_)
    first
      | (refine op_want rfl rfl ?_
         refine op_call pl85 rfl rfl ((Cterms_does (ha.mono Imm.leA))) Parts.none ?_
         rintro v23 I23 _ hI23 ⟨hs23, rfl⟩)
      | (refine op_skip rfl rfl (by simp [undef]) rfl ?_)
    first
      | (refine op_want rfl rfl ?_
         refine op_call pl103 rfl rfl ((ContT_does (p := badT) hs23 (fun J u t hJ hu ht => Does.toF (args := [_]) (by kernel_rfl) (Apart1_does hu (by have := hsz t ht; omega))))) Parts.none ?_
         rintro v24 I24 _ hI24 ⟨rfl, rfl⟩)
      | (refine op_skip rfl rfl (by simp [undef]) rfl ?_)
    by_cases h25 : (sidesL c).any badT = true
    · rw [h25]
      first | refine op_v (v_pickt rfl rfl) rfl ?_ | refine op_v (v_pickf rfl rfl) rfl ?_ | refine op_v (v_pickb rfl rfl rfl) rfl ?_
      refine ops_nil ?_
      refine post_next ?_
      refine code_cond_t rfl ?_
      refine code_seq ?_
      refine code_region ?_
      refine op_v (v_assign rfl) rfl ?_
      refine op_v (v_assign rfl) rfl ?_
      refine ops_nil ?_
      refine post_next ?_
      refine code_ret ?_
      refine post_ret_then ?_
      refine post_ret (rs := [.tmp 4, .tmp 5]) rfl (List.Perm.refl _) (.cons (.tmp rfl) (.cons (.tmp rfl) .nil)) (List.nil_sublist _) ?_
      exact ⟨.inl ⟨by unfold apartE; rw [hgood, h25]; rfl, rfl⟩, rfl⟩
    · have h25' : (sidesL c).any badT = false := by simpa using h25
      rw [h25']
      have hvin := varsC_in h25'
      first | refine op_v (v_pickt rfl rfl) rfl ?_ | refine op_v (v_pickf rfl rfl) rfl ?_ | refine op_v (v_pickb rfl rfl rfl) rfl ?_
      refine ops_nil ?_
      refine post_next ?_
      refine code_cond_f rfl ?_
      refine code_skip ?_
      refine post_next ?_
      refine code_seq ?_
      refine code_region ?_
      refine op_v (v_assign rfl) rfl ?_
      refine ops_nil ?_
      refine post_next ?_
      refine code_seq ?_
      refine code_seq ?_
      refine code_region ?_
      refine op_v (v_move rfl) rfl ?_
      refine op_call pl44 rfl rfl ((CVars_does (ha.mono Imm.leA) hsc)) Parts.none ?_
      rintro v27 I27 _ hI27 ⟨hv27, rfl⟩
      have hn27 := hv27.len
      obtain ⟨wa, wc, rfl⟩ := hv27.shape
      refine op_v (v_len Try.underlying62 rfl) rfl ?_
      refine op_v (v_move rfl) rfl ?_
      refine ops_nil ?_
      refine post_next ?_
      refine code_block ?_
      refine code_loop (fun m σ' I' δ' => ∃ k : Nat, m = (varsC c).length - k ∧ k ≤ (varsC c).length ∧ σ' = [(1, .slice da d.length dc), (6, .slice a16 (sidesL d).length c16), (8, .int .i64 (byL ((varsC c).take k))), (27, .slice wa (varsC c).length wc), (28, .int .i64 (varsC c).length), (29, .int .i64 k)] ∧ I27.le I' ∧ δ' = [tRow a16 c16 (sidesL d).length zs]) (varsC c).length [(1, .slice da d.length dc), (6, .slice a16 (sidesL d).length c16), (8, .int .i64 0), (27, .slice wa (varsC c).length wc), (28, .int .i64 (varsC c).length), (29, .int .i64 (0 : Nat))] ⟨0, rfl, Nat.zero_le _, rfl, Imm.le_refl _, rfl⟩ ⟨rfl, rfl, rfl, rfl, rfl, rfl, trivial⟩ ?_
      rintro m _ I0 _ ⟨k, rfl, hk, rfl, hI0, rfl⟩
      refine code_seq ?_
      refine code_region ?_
      first | refine op_v (v_cmptA rfl rfl rfl) rfl ?_ | refine op_v (v_cmpfA rfl rfl rfl) rfl ?_ | refine op_v (v_cmp rfl rfl rfl) rfl ?_
      refine ops_nil ?_
      refine post_next ?_
      refine code_seq ?_
      refine code_cond rfl (fun hc1 => ?_) (fun hc1 => ?_)
      · have hlt : k < (varsC c).length := by simpa using hc1
        have hatk := hv27.atI k hlt
        have hs2 := hatk.isSome
        have hin := hvin _ (List.getElem_mem hlt)
        have hbt := byL_take (varsC c) k hlt
        refine code_skip ?_
        refine post_next ?_
        refine code_seq ?_
        refine code_block ?_
        refine code_seq ?_
        refine code_region ?_
        first | refine op_v (v_indexA Try.underlying62 sz3 rfl rfl) rfl ?_ | refine op_v (v_indexIA Try.underlying62 sz3 rfl rfl) rfl ?_
        first | refine op_v (v_loadI0 ty3 (hatk.mono hI0) rfl rfl rfl) rfl ?_ | refine op_v (v_loadI ty3 (hatk.mono hI0) rfl rfl rfl) rfl ?_
        refine op_v (v_assign rfl) rfl ?_
        refine ops_nil ?_
        refine post_next ?_
        refine code_region ?_
        refine op_v (v_move rfl) rfl ?_
        refine op_v (v_move rfl) rfl ?_
        refine op_v (v_addb (c := (varsC c)[k] + 1) rfl rfl rfl (by omega)) rfl ?_
        refine op_v (v_max rfl rfl) rfl ?_
        refine op_v (v_assign rfl) rfl ?_
        refine ops_nil ?_
        refine post_out ?_
        refine post_next ?_
        refine code_region ?_
        first | refine op_v (v_addb rfl rfl rfl (by omega)) rfl ?_ | refine op_v (v_add rfl rfl) rfl ?_
        refine op_v (v_move rfl) rfl ?_
        refine ops_nil ?_
        refine post_again ((varsC c).length - (k + 1)) [(1, .slice da d.length dc), (6, .slice a16 (sidesL d).length c16), (8, .int .i64 (byL ((varsC c).take (k + 1)))), (27, .slice wa (varsC c).length wc), (28, .int .i64 (varsC c).length), (29, .int .i64 (k + 1 : Nat))] (by omega) ⟨k + 1, rfl, hlt, rfl, Imm.leA, rfl⟩ ⟨rfl, rfl, by rw [hbt]; rfl, rfl, rfl, rfl, trivial⟩
      · have hge : k = (varsC c).length := by simp at hc1; omega
        subst hge
        rw [List.take_length, ← hN]
        refine code_exit ?_
        refine post_exit_then ?_
        refine post_exit_then ?_
        refine post_exit ?_
        refine post_next ?_
        refine code_seq ?_
        refine code_seq ?_
        refine code_region ?_
        refine op_v (v_move rfl) rfl ?_
        refine op_v (v_len Try.underlying45 rfl) rfl ?_
        refine op_v (v_move rfl) rfl ?_
        refine ops_nil ?_
        refine post_next ?_
        refine code_block ?_
        refine code_loop (fun m σ' I' δ' => ∃ (k : Nat) (ys : List Value), m = L.length - k ∧ k ≤ L.length ∧ σ' = [(1, .slice da d.length dc), (6, .slice a16 (sidesL d).length c16), (8, .int .i64 N), (38, .slice a16 (sidesL d).length c16), (39, .int .i64 (sidesL d).length), (40, .int .i64 k)] ∧ I0.le I' ∧ δ' = [tRow a16 c16 (sidesL d).length ys] ∧ RowE TermE I' ys ((L.take k).map (apT N) ++ L.drop k) ∧ ∀ j (h : j < L.length), j < k → apBad N L[j] = false) L.length [(1, .slice da d.length dc), (6, .slice a16 (sidesL d).length c16), (8, .int .i64 N), (38, .slice a16 (sidesL d).length c16), (39, .int .i64 (sidesL d).length), (40, .int .i64 (0 : Nat))] ⟨0, zs, rfl, Nat.zero_le _, rfl, Imm.le_refl _, rfl, hzE.mono Imm.leA, fun j _ h => by omega⟩ ⟨rfl, rfl, rfl, rfl, rfl, rfl, trivial⟩ ?_
        rintro m _ I1 _ ⟨k2, ys, rfl, hk2, rfl, hI1, rfl, hys, hok⟩
        refine code_seq ?_
        refine code_region ?_
        first | refine op_v (v_cmptA rfl rfl rfl) rfl ?_ | refine op_v (v_cmpfA rfl rfl rfl) rfl ?_ | refine op_v (v_cmp rfl rfl rfl) rfl ?_
        refine ops_nil ?_
        refine post_next ?_
        refine code_seq ?_
        refine code_cond rfl (fun hc2 => ?_) (fun hc2 => ?_)
        · have hlt2 : k2 < L.length := by have h := hc2; simp at h; omega
          have hkm : k2 < ((L.take k2).map (apT N) ++ L.drop k2).length := by simp; omega
          have hat := hys.at hkm
          rw [mid_get _ L k2 hlt2] at hat
          obtain ⟨vs, ⟨a', c', rfl, hrk⟩, _, r, hdrop⟩ := hat
          have hsk : L[k2].size ≤ 100000 := by have := sizeL_getL (Nat.le_trans hLs hsd) _ (List.getElem_mem hlt2); omega
          refine code_skip ?_
          refine post_next ?_
          refine code_seq ?_
          refine code_block ?_
          refine code_seq ?_
          refine code_region ?_
          refine op_v (v_move rfl) rfl ?_
          refine OpsJ.rowSome Has.here (by omega) (fun hA hcr => ?_)
          first | refine op_v (v_indexA Try.underlying45 sz47 rfl rfl) rfl ?_ | refine op_v (v_indexIA Try.underlying45 sz47 rfl rfl) rfl ?_
          refine op_v (v_loadRow (v := .agg #[.int .i64 L[k2].head, .slice a' L[k2].args.length c']) ty47 rfl Has.here hA (by rw [hdrop]; rfl)) rfl ?_
          refine o_alloc z47 rfl rfl (fun b12 => ?_)
          refine op_v (v_assign rfl) rfl ?_
          refine o_store ty47 rfl rfl rfl rfl rfl (by repeat (first | exact Swap.here | apply Swap.there)) rfl ?_
          refine ops_nil ?_
          refine post_next ?_
          refine code_seq ?_
          refine code_seq ?_
          refine code_region ?_
          refine op_v (v_loadA ty47 rfl rfl) rfl ?_
          refine op_call pl91 rfl rfl ((TVars_does hrk (by omega))) Parts.none ?_
          rintro v46 I46 _ hI46 ⟨hv46, rfl⟩
          obtain ⟨xa, xc, rfl⟩ := hv46.shape
          refine op_v (v_len Try.underlying62 rfl) rfl ?_
          by_cases h48 : (varsP (partsT 1 L[k2])).length = 0
          · have hany : anyV L[k2] = false := by unfold anyV; rw [h48]; rfl
            have hap : apT N L[k2] = L[k2] := by unfold apT; rw [hany]; rfl
            have hbd : apBad N L[k2] = false := by unfold apBad; rw [hany]; rfl
            first | refine op_v (v_cmptA rfl rfl rfl) rfl ?_ | refine op_v (v_cmpfA rfl rfl rfl) rfl ?_ | refine op_v (v_cmp rfl rfl rfl) rfl ?_
            refine ops_nil ?_
            refine post_next ?_
            refine code_cond_t rfl ?_
            refine code_exit ?_
            refine post_exit_then ?_
            refine post_exit ?_
            refine post_next ?_
            refine code_region ?_
            first | refine op_v (v_addb rfl rfl rfl (by omega)) rfl ?_ | refine op_v (v_add rfl rfl) rfl ?_
            refine op_v (v_move rfl) rfl ?_
            refine ops_nil ?_
            refine PostJ.view (View.drop Del.here) ?_
            refine post_again (L.length - (k2 + 1)) [(1, .slice da d.length dc), (6, .slice a16 (sidesL d).length c16), (8, .int .i64 N), (38, .slice a16 (sidesL d).length c16), (39, .int .i64 (sidesL d).length), (40, .int .i64 (k2 + 1 : Nat))] (by omega) ⟨k2 + 1, ys, rfl, hlt2, rfl, Imm.leA, rfl, by rw [← mid_keep _ L k2 hlt2 hap]; exact hys.mono Imm.leA, fun j hj hjk => ?_⟩ ⟨rfl, rfl, rfl, rfl, rfl, rfl, trivial⟩
            rcases Nat.lt_or_ge j k2 with q | q
            · exact hok j hj q
            · have e : j = k2 := by omega
              subst e; exact hbd
          · have hany : anyV L[k2] = true := by unfold anyV; rw [decide_eq_true (by omega)]
            have hap : apT N L[k2] = shT N L[k2] := by unfold apT; rw [hany]; rfl
            first | refine op_v (v_cmptA rfl rfl rfl) rfl ?_ | refine op_v (v_cmpfA rfl rfl rfl) rfl ?_ | refine op_v (v_cmp rfl rfl rfl) rfl ?_
            refine ops_nil ?_
            refine post_next ?_
            refine code_cond_f rfl ?_
            refine code_skip ?_
            refine post_next ?_
            refine code_seq ?_
            refine code_region ?_
            refine op_v (v_move rfl) rfl ?_
            refine op_v (v_move rfl) rfl ?_
            refine op_v (v_loadA ty47 rfl rfl) rfl ?_
            refine op_v (v_move rfl) rfl ?_
            refine op_call pl106 rfl rfl ((Shift_does (n := N) (hrk.mono Imm.leA) (by omega))) Parts.none ?_
            rintro v54 I54 _ hI54 ⟨⟨u54, rfl, hv54⟩, rfl⟩
            obtain ⟨w, hw⟩ : ∃ w, w = if shE N L[k2] = 0 then shT N L[k2] else zeroT := ⟨_, rfl⟩
            rw [← hw] at hv54
            obtain ⟨a54, c54, rfl, _⟩ := hv54.shape
            obtain ⟨vs1, ⟨_, _, rfl, _⟩, _, hst1⟩ := (hys.mono (show I1.le I54 from Imm.leA)).store (b := w) hkm
            obtain ⟨ys1, hst, hrow1⟩ := hst1 0 [.int .i64 w.head, .slice a54 w.args.length c54] _ rfl ⟨a54, c54, rfl, hv54⟩
            refine op_v (v_move rfl) rfl ?_
            refine op_v (v_extract rfl rfl) rfl ?_
            refine op_v (v_extract rfl rfl) rfl ?_
            first | refine op_v (v_indexA Try.underlying45 sz47 rfl rfl) rfl ?_ | refine op_v (v_indexIA Try.underlying45 sz47 rfl rfl) rfl ?_
            refine o_storeRow (xs' := ys1) ty47 rfl rfl hA rfl rfl rfl (by simp [cellsL]) (Swap.there Swap.here) hst ?_
            refine op_v (v_assign rfl) rfl ?_
            refine ops_nil ?_
            refine post_next ?_
            refine code_seq ?_
            refine code_region ?_
            refine op_v (v_move rfl) rfl ?_
            by_cases h59 : shE N L[k2] ≠ 0
            · first | refine op_v (v_cmptA rfl rfl rfl) rfl ?_ | refine op_v (v_cmpfA rfl rfl rfl) rfl ?_ | refine op_v (v_cmp rfl rfl rfl) rfl ?_
              refine ops_nil ?_
              refine post_next ?_
              refine code_cond_t rfl ?_
              refine code_seq ?_
              refine code_region ?_
              refine op_v (v_assign rfl) rfl ?_
              refine op_v (v_assign rfl) rfl ?_
              refine ops_nil ?_
              refine post_next ?_
              refine code_ret ?_
              refine post_ret_block ?_
              refine post_ret_then ?_
              refine post_ret_then ?_
              refine post_ret_block ?_
              refine post_ret_then ?_
              refine post_ret (rs := [.tmp 4, .tmp 5]) rfl (List.Perm.refl _) (.cons (.tmp rfl) (.cons (.tmp rfl) .nil)) (List.nil_sublist _) ?_
              exact ⟨.inl ⟨by unfold apartE; rw [hgood, h25', ← hL, ← hN]; show L.any (apBad N) = true; exact List.any_eq_true.2 ⟨L[k2], List.getElem_mem hlt2, by unfold apBad; rw [hany]; simp [h59]⟩, rfl⟩, rfl⟩
            · have h59' : shE N L[k2] = 0 := Classical.not_not.1 h59
              rw [if_pos h59'] at hw
              have hbd : apBad N L[k2] = false := by unfold apBad; rw [h59']; simp
              rw [hw, ← hap, mid_set _ L k2 hlt2] at hrow1
              first | refine op_v (v_cmptA rfl rfl rfl) rfl ?_ | refine op_v (v_cmpfA rfl rfl rfl) rfl ?_ | refine op_v (v_cmp rfl rfl rfl) rfl ?_
              refine ops_nil ?_
              refine post_next ?_
              refine code_cond_f rfl ?_
              refine code_skip ?_
              refine post_out ?_
              refine post_next ?_
              refine code_region ?_
              first | refine op_v (v_addb rfl rfl rfl (by omega)) rfl ?_ | refine op_v (v_add rfl rfl) rfl ?_
              refine op_v (v_move rfl) rfl ?_
              refine ops_nil ?_
              refine PostJ.view (View.drop Del.here) ?_
              refine post_again (L.length - (k2 + 1)) [(1, .slice da d.length dc), (6, .slice a16 (sidesL d).length c16), (8, .int .i64 N), (38, .slice a16 (sidesL d).length c16), (39, .int .i64 (sidesL d).length), (40, .int .i64 (k2 + 1 : Nat))] (by omega) ⟨k2 + 1, ys1, rfl, hlt2, rfl, Imm.leA, rfl, hrow1, fun j hj hjk => ?_⟩ ⟨rfl, rfl, rfl, rfl, rfl, rfl, trivial⟩
              rcases Nat.lt_or_ge j k2 with q | q
              · exact hok j hj q
              · have e : j = k2 := by omega
                subst e; exact hbd
        · have hge2 : k2 = L.length := by have h := hc2; simp at h; omega
          refine code_exit ?_
          refine post_exit_then ?_
          refine post_exit_then ?_
          refine post_exit ?_
          refine post_next ?_
          refine code_seq ?_
          refine code_region ?_
          refine OpsJ.freezeRow Del.here ?_
          rintro I61 a61 c61 hI61 hq hc61 hl61 hcells61
          cases hq
          rw [hge2, List.take_length, List.drop_length, List.append_nil] at hys
          have hml : (L.map (apT N)).length = (sidesL d).length := by rw [List.length_map, hLl]
          have hrs := (hys.mono hI61).repS hcells61 (by rw [hml]; exact hc61) (by rw [hml, hl2]; omega)
          rw [hml] at hrs
          refine op_v (v_move rfl) rfl ?_
          refine op_v (v_move rfl) rfl ?_
          refine op_call pl86 rfl rfl ((Cof_does (hb.mono Imm.leA) hrs (by rw [hml]; exact hl2))) Parts.none ?_
          rintro v63 I63 _ hI63 ⟨hr63, rfl⟩
          have hl63 : (ofL d (L.map (apT N))).length = d.length := ofL_len d _ (by rw [hml]; exact hl2)
          obtain ⟨a63, c63, hsh⟩ := RepE.shape hr63
          rw [hl63] at hsh
          subst hsh
          refine op_v (v_assign rfl) rfl ?_
          refine op_v (v_assign rfl) rfl ?_
          refine ops_nil ?_
          refine post_next ?_
          refine code_ret ?_
          refine post_ret (rs := [.tmp 4, .tmp 5]) rfl (List.Perm.refl _) (.cons (.tmp rfl) (.cons (.tmp rfl) .nil)) (List.nil_sublist _) ?_
          exact ⟨.inr ⟨by unfold apartE; rw [hgood, h25', ← hL, ← hN]; show L.any (apBad N) = false; exact List.any_eq_false.2 fun t ht => by obtain ⟨j, hj, rfl⟩ := List.getElem_of_mem ht; rw [hok j hj (by omega)]; simp, a63, c63, rfl, by unfold apartC; rw [← hL, ← hN]; exact hr63⟩, rfl⟩
end Go.Proofs.Ytdbadicpbmndbaa
/- What stands apart: its variables, its Norm. Plain facts; no condition. -/
set_option linter.unusedVariables false
set_option linter.unusedSimpArgs false
set_option linter.unnecessarySimpa false
namespace Go.Proofs.Ytdbadicpbmndbaa
open Go Lg

theorem sidesL_ofL : ∀ (c : List Li) (ss : List T), ss.length = 2 * c.length → sidesL (ofL c ss) = ss
  | [], [], h => rfl
  | [], _ :: _, h => by simp at h
  | x :: r, [], h => by simp at h
  | x :: r, [a], h => by simp at h; omega
  | x :: r, a :: b :: s, h => by
    show [a, b] ++ sidesL (ofL r s) = _
    rw [sidesL_ofL r s (by simp at h; omega)]; rfl
theorem ofL_ofL : ∀ (c : List Li) (ss us : List T), ss.length = 2 * c.length → us.length = 2 * c.length → ofL (ofL c ss) us = ofL c us
  | [], ss, us, h, k => by cases ss <;> cases us <;> rfl
  | x :: r, [], us, h, k => by simp at h
  | x :: r, [a], us, h, k => by simp at h; omega
  | x :: r, a :: b :: s, [], h, k => by simp at k
  | x :: r, a :: b :: s, [_], h, k => by simp at k; omega
  | x :: r, a :: b :: s, e :: f :: u, h, k => by
    show ofL (⟨x.neg, a, b⟩ :: ofL r s) (e :: f :: u) = _
    simp only [ofL]
    rw [ofL_ofL r s u (by simp at h; omega) (by simp at k; omega)]
/-! ### without variables -/
theorem varsP_has : ∀ {l : List (Nat × T)} {x : Nat × T}, x ∈ l → x.2.head < 0 → -1 - x.2.head ∈ varsP l := by
  intro l
  induction l using snoc_ind with
  | h0 => intro x h; cases h
  | h1 l y ih =>
    intro x h hx
    rw [varsP_snoc]
    rcases List.mem_append.1 h with h | h
    · have := ih h hx
      split
      · exact List.mem_append_left _ this
      · exact this
    · simp at h; subst h
      split
      · simp
      · rename_i hn
        by_cases hm : -1 - x.2.head ∈ varsP l
        · exact hm
        · exact absurd ⟨by omega, hm⟩ hn
theorem hds_parts {t : T} {k : Int} (hk : k ∈ hds t) : ∃ x ∈ partsT 1 t, x.2.head = k := by
  obtain ⟨y, hy, rfl⟩ := List.mem_map.1 hk
  have h2 : y.2 ∈ (visT true t).map (·.2) := List.mem_map_of_mem (f := fun x : Bool × T => x.2) hy
  rw [← snd_T 1 true t] at h2
  obtain ⟨x, hx, e⟩ := List.mem_map.1 h2
  exact ⟨x, hx, by rw [e]⟩
theorem anyV_false {t : T} (h : anyV t = false) : ∀ k ∈ hds t, 0 ≤ k := fun k hk => by
  obtain ⟨x, hx, rfl⟩ := hds_parts hk
  by_cases q : x.2.head < 0
  · have := varsP_has hx q
    unfold anyV at h
    rw [decide_eq_false_iff_not] at h
    have := List.length_pos_of_mem this
    omega
  · omega
mutual
theorem ren_groundT : ∀ (s : T) (ns : List Int), (∀ k ∈ hds (renT ns s).1, 0 ≤ k) → (renT ns s).1 = s
  | .mk h ts, ns, hk => by
    simp only [renT] at hk ⊢
    split
    · rename_i hn
      rw [if_pos hn] at hk
      have := hk _ (by rw [hds_eq2]; exact List.mem_cons_self ..)
      omega
    · rename_i hn
      rw [if_neg hn] at hk
      rw [hds_eq2] at hk
      simp only
      rw [ren_groundL ts ns fun k h => hk k (List.mem_cons_of_mem _ h)]
theorem ren_groundL : ∀ (ts : List T) (ns : List Int), (∀ k ∈ (renL ns ts).1.flatMap hds, 0 ≤ k) → (renL ns ts).1 = ts
  | [], _, _ => by simp [renL]
  | t :: r, ns, hk => by
    simp only [renL, List.flatMap_cons] at hk ⊢
    rw [ren_groundT t ns fun k h => hk k (List.mem_append_left _ h), ren_groundL r _ fun k h => hk k (List.mem_append_right _ h)]
end
mutual
theorem sh_groundT (n : Int) : ∀ t : T, (∀ k ∈ hds t, 0 ≤ k) → shT n t = t
  | .mk h ts, hk => by
    rw [hds_eq2] at hk
    have h0 : 0 ≤ h := hk h (List.mem_cons_self ..)
    show rbT (shF n) (.mk h ts) = _
    simp only [rbT]
    rw [if_neg (by omega), sh_groundL n ts fun k q => hk k (List.mem_cons_of_mem _ q)]
theorem sh_groundL (n : Int) : ∀ ts : List T, (∀ k ∈ ts.flatMap hds, 0 ≤ k) → rbL (shF n) ts = ts
  | [], _ => rfl
  | t :: r, hk => by
    rw [List.flatMap_cons] at hk
    simp only [rbL]
    have h1 := sh_groundT n t fun k q => hk k (List.mem_append_left _ q)
    unfold shT at h1
    rw [h1, sh_groundL n r fun k q => hk k (List.mem_append_right _ q)]
end
theorem apT_sh (n : Int) (t : T) : apT n t = shT n t := by
  unfold apT
  split
  · rfl
  · rename_i h
    exact (sh_groundT n t (anyV_false (by simpa using h))).symm
theorem apL_sh (n : Int) (ts : List T) : ts.map (apT n) = rbL (shF n) ts := by
  rw [rbL_map]; exact List.map_congr_left fun t _ => apT_sh n t
/-! ### variables are greater -/
mutual
theorem sh_hdsT {n : Int} (hn : 0 ≤ n) : ∀ t : T, ∀ k ∈ hds (rbT (shF n) t), 0 ≤ k ∨ k ≤ -1 - n
  | .mk h ts, k, hk => by
    simp only [rbT] at hk
    split at hk
    · rename_i hneg
      unfold shF at hk
      rw [hds_eq2] at hk
      simp [T.head] at hk
      subst hk; right; omega
    · rw [hds_eq2, List.mem_cons] at hk
      rcases hk with rfl | hk
      · left; omega
      · exact sh_hdsL hn ts k hk
theorem sh_hdsL {n : Int} (hn : 0 ≤ n) : ∀ ts : List T, ∀ k ∈ (rbL (shF n) ts).flatMap hds, 0 ≤ k ∨ k ≤ -1 - n
  | [], k, hk => by simp [rbL] at hk
  | t :: r, k, hk => by
    simp only [rbL, List.flatMap_cons] at hk
    rcases List.mem_append.1 hk with h | h
    · exact sh_hdsT hn t k h
    · exact sh_hdsL hn r k h
end
theorem apart_vars {c d : List Li} : ∀ v ∈ varsC (apartC c d), v ∉ varsC c := fun v hv hm => by
  have hlt := byL_lt hm
  unfold varsC apartC at hv
  rw [sidesL_ofL _ _ (by rw [List.length_map, renL_len]; exact sidesL_len d), apL_sh] at hv
  rcases varsGo_get hv with h | ⟨t, ht, hv⟩
  · cases h
  · obtain ⟨x, hx, e, h0⟩ := varsP_get hv
    have hk := sh_hdsL (byL_nonneg (varsGo [] (sidesL c))) _ x.2.head (List.mem_flatMap.2 ⟨t, ht, parts_hds hx⟩)
    have : byL (varsC c) = byL (varsGo [] (sidesL c)) := rfl
    omega
/-! ### the same Norm -/
def rg (n : Int) (m : Nat) : List Int := (List.range m).map fun i : Nat => (i : Int) + n
theorem rg_succ (n : Int) (m : Nat) : rg n (m + 1) = rg n m ++ [(m : Int) + n] := by simp [rg, List.range_succ]
theorem rg_mem {n : Int} {m k : Nat} : (k : Int) + n ∈ rg n m ↔ k < m := by
  unfold rg
  rw [List.mem_map]
  constructor
  · rintro ⟨i, hi, e⟩; have := List.mem_range.1 hi; omega
  · intro h; exact ⟨k, List.mem_range.2 h, rfl⟩
theorem rg_num (n : Int) : ∀ (m k : Nat), k < m → numOf (rg n m) ((k : Int) + n) = k
  | 0, k, h => by omega
  | m + 1, k, h => by
    rw [rg_succ]
    by_cases q : k < m
    · rw [numOf_app _ (rg_mem.2 q), rg_num n m k q]
    · have e : k = m := by omega
      subst e
      rw [numOf_new (fun h => q (rg_mem.1 h))]; simp [rg]
theorem rg_len (n : Int) (m : Nat) : (rg n m).length = m := by simp [rg]
mutual
theorem ren_shT {n : Int} (hn : 0 ≤ n) : ∀ (t : T) (ns : List Int), renT (rg n ns.length) (rbT (shF n) (renT ns t).1) = ((renT ns t).1, rg n (renT ns t).2.length)
  | .mk h ts, ns => by
    simp only [renT]
    split
    · rename_i hneg
      obtain ⟨v, hv⟩ : ∃ v, v = -1 - h := ⟨_, rfl⟩
      rw [← hv]
      have hk : numOf (addN ns v) v < (addN ns v).length := numOf_lt (addN_mem ns v)
      obtain ⟨k, hkd⟩ : ∃ k, k = numOf (addN ns v) v := ⟨_, rfl⟩
      rw [← hkd] at hk ⊢
      simp only [rbT]
      rw [if_pos (by omega)]
      show renT (rg n ns.length) (.mk (-1 - (k : Int) - n) []) = _
      simp only [renT]
      rw [if_pos (by omega), show -1 - (-1 - (k : Int) - n) = (k : Int) + n by omega]
      have hadd : addN (rg n ns.length) ((k : Int) + n) = rg n (addN ns v).length := by
        by_cases hm : v ∈ ns
        · have e : addN ns v = ns := if_pos hm
          rw [e] at hk ⊢
          unfold addN; rw [if_pos (rg_mem.2 hk)]
        · have e : addN ns v = ns ++ [v] := if_neg hm
          rw [e, numOf_new hm] at hkd
          rw [e]; subst hkd
          unfold addN; rw [if_neg (fun h => by have := rg_mem.1 h; omega), List.length_append]
          exact (rg_succ n ns.length).symm
      rw [hadd, rg_num n _ k hk]
    · rename_i hneg
      simp only [rbT]
      rw [if_neg hneg]
      simp only [renT]
      rw [if_neg hneg, ren_shL hn ts ns]
theorem ren_shL {n : Int} (hn : 0 ≤ n) : ∀ (ts : List T) (ns : List Int), renL (rg n ns.length) (rbL (shF n) (renL ns ts).1) = ((renL ns ts).1, rg n (renL ns ts).2.length)
  | [], ns => by simp [renL, rbL]
  | t :: r, ns => by
    simp only [renL, rbL]
    rw [ren_shT hn t ns, ren_shL hn r (renT ns t).2]
end
theorem apart_norm (c d : List Li) : normC (apartC c d) = normC d := by
  have h2 := sidesL_len d
  have hl : (renL [] (sidesL d)).1.length = 2 * d.length := by rw [renL_len]; exact h2
  have key := ren_shL (byL_nonneg (varsC c)) (sidesL d) []
  unfold normC apartC
  rw [sidesL_ofL _ _ (by rw [List.length_map]; exact hl), apL_sh]
  rw [show (rg (byL (varsC c)) ([] : List Int).length) = [] from rfl] at key
  rw [key, ofL_ofL _ _ _ (by rw [rbL_len]; exact hl) hl]
theorem renL_mem : ∀ {ts : List T} {ns : List Int} {u : T}, u ∈ (renL ns ts).1 → ∃ t ∈ ts, ∃ ms, u = (renT ms t).1
  | [], ns, u, h => by simp [renL] at h
  | t :: r, ns, u, h => by
    simp only [renL, List.mem_cons] at h
    rcases h with rfl | h
    · exact ⟨t, List.mem_cons_self .., ns, rfl⟩
    · obtain ⟨s, hs, ms, e⟩ := renL_mem h
      exact ⟨s, List.mem_cons_of_mem _ hs, ms, e⟩
theorem apart_good {c d : List Li} (h : apartE c d = false) : (sidesL d).any badT = false ∧ (sidesL (apartC c d)).any badT = false := by
  unfold apartE at h
  rw [Bool.or_eq_false_iff, Bool.or_eq_false_iff] at h
  obtain ⟨h1, _, h3⟩ := h
  refine ⟨h1, ?_⟩
  unfold apartC
  rw [sidesL_ofL _ _ (by rw [List.length_map, renL_len]; exact sidesL_len d)]
  refine List.any_eq_false.2 fun u hu => ?_
  obtain ⟨t, ht, rfl⟩ := List.mem_map.1 hu
  have hb : apBad (byL (varsC c)) t = false := by simpa using List.any_eq_false.1 h3 t ht
  have goal : chkT (apT (byL (varsC c)) t) = 0 := by
    cases hv : anyV t with
    | true =>
      unfold apBad at hb
      rw [hv] at hb
      have he : shE (byL (varsC c)) t = 0 := by simpa using hb
      rw [apT_sh]
      unfold shE at he
      split at he
      · cases he
      · split at he
        · cases he
        · split at he
          · cases he
          · exact he
    | false =>
      obtain ⟨s, hs, ms, rfl⟩ := renL_mem ht
      have hg := anyV_false hv
      rw [apT_sh, sh_groundT _ _ hg, ren_groundT s ms hg]
      have := List.any_eq_false.1 h1 s hs
      unfold badT at this
      simpa using this
  unfold badT
  simp [goal]
theorem apart_size (c d : List Li) : sizeL (sidesL (apartC c d)) ≤ sizeL (sidesL d) := by
  unfold apartC
  rw [sidesL_ofL _ _ (by rw [List.length_map, renL_len]; exact sidesL_len d), apL_sh]
  have h1 := rb_sizeL (shF (byL (varsC c))) 1 (Nat.le_refl _) (fun t _ => by have := t.size_pos; simp [shF, T.size, sizeL]; omega) (renL [] (sidesL d)).1
  have h2 := sizeL_getR [] (sidesL d)
  omega
theorem smC_of {c : List Li} (h : sizeL (sidesL c) ≤ 100000) : SmC c := fun x hx => by
  have h1 := sizeL_getL h x.l (List.mem_flatMap.2 ⟨x, hx, by simp⟩)
  have h2 := sizeL_getL h x.r (List.mem_flatMap.2 ⟨x, hx, by simp⟩)
  omega
theorem norm_size (c : List Li) : sizeL (sidesL (normC c)) ≤ sizeL (sidesL c) := by
  unfold normC
  rw [sidesL_ofL _ _ (by rw [renL_len]; exact sidesL_len c)]
  exact sizeL_getR [] (sidesL c)
end Go.Proofs.Ytdbadicpbmndbaa
/- Walks: clauses without variables: the statement. -/
set_option linter.unusedVariables false
set_option linter.unusedSimpArgs false
set_option linter.unnecessarySimpa false
/- short -/
namespace Go.Proofs.Ytdbadicpbmndbaa
open Go Lg

theorem cmpE_comm {gs : List Sy} {c d : List Li} : cmpE gs c d = 0 ↔ cmpE gs d c = 0 := by
  unfold cmpE
  by_cases h1 : chkC gs c ≠ 0
  · rw [if_pos h1]
    by_cases h2 : chkC gs d ≠ 0
    · rw [if_pos h2]; simp [h1, h2]
    · rw [if_neg h2]
  · rw [if_neg h1]
    by_cases h2 : chkC gs d ≠ 0
    · rw [if_pos h2]
    · rw [if_neg h2]; simp at h1 h2; simp [h1, h2]
theorem cmpE_ok {gs : List Sy} {c d : List Li} (h : cmpE gs c d = 0) : (∀ x ∈ c, OkL gs x) ∧ ∀ x ∈ d, OkL gs x := by
  have h2 := cmpE_comm.1 h
  unfold cmpE at h h2
  have hc : chkC gs c = 0 := by
    by_cases q : chkC gs c ≠ 0
    · rw [if_pos q] at h; exact h
    · exact Classical.not_not.1 q
  have hd : chkC gs d = 0 := by
    by_cases q : chkC gs d ≠ 0
    · rw [if_pos q] at h2; exact h2
    · exact Classical.not_not.1 q
  exact ⟨fun x hx => litG_ok ((chkC_ok hc).2.2 x hx), fun x hx => litG_ok ((chkC_ok hd).2.2 x hx)⟩
theorem cmpC_vals (gs : List Sy) (c d : List Li) : cmpC gs c d = 0 ∨ cmpC gs c d = 1 ∨ cmpC gs c d = -1 ∨ cmpC gs c d = 2 := mulX_vals _ _
theorem map_can_ok {gs : List Sy} {c : List Li} (h : ∀ x ∈ c, OkL gs x) : ∀ t ∈ c.map canL, OkL gs t := fun t ht => by
  obtain ⟨x, hx, rfl⟩ := List.mem_map.1 ht
  exact (h x hx).can
theorem cmpC_anti {gs : List Sy} {c d : List Li} (hc : ∀ x ∈ c, OkL gs x) (hd : ∀ x ∈ d, OkL gs x) (h2 : cmpC gs c d ≠ 2) : cmpC gs c d = -(cmpC gs d c) := by
  rcases cmpC_vals gs c d with e | e | e | e
  · rw [e]; unfold cmpC at *; rw [mulX_zero.2 (mulX_zero.1 e).symm]; rfl
  · have := mulX_anti (gtL_ord gs) (map_can_ok hc) (map_can_ok hd) e
    unfold cmpC at *; omega
  · have := mulX_less e
    unfold cmpC at *; omega
  · exact absurd e h2
theorem cmpC_len {gs : List Sy} {c d : List Li} (h : cmpC gs c d = 0) : c.length = d.length := by
  have := (mulX_zero.1 h).length_eq
  simpa using this
theorem ClauseGround_does {I : Imm} {vg va vb : Value} {gs : List Sy} {c d : List Li} (hg : RepG I vg gs) (ha : RepC I va c) (hb : RepC I vb d) :
    Does Try.prog 8 [vg, va, vb] I [] (fun v I' δ' => v = .bool true ∧ δ' = []) := by
  obtain ⟨aa, ac, hsa⟩ := RepE.shape ha
  subst hsa
  obtain ⟨ba, bc, hsb⟩ := RepE.shape hb
  subst hsb
  have hba := RepE.small ha
  have hbb := RepE.small hb
  refine Does.intro Try.func8 rfl Try.ntmps8 rfl fun w0 => ?_
  refine code_seq ?_
  refine code_region ?_
  refine op_v (v_assign rfl) rfl ?_
  refine ops_nil ?_
  refine post_next ?_
  refine code_seq ?_
  refine code_seq ?_
  refine code_region ?_
  refine op_v (v_move rfl) rfl ?_
  refine op_v (v_move rfl) rfl ?_
  refine op_v (v_move rfl) rfl ?_
  refine op_call pl40 rfl rfl ((lfew10_does hg ha hb)) Parts.none ?_
  rintro v14 I14 _ hI14 ⟨⟨b14, rfl, hb14⟩, rfl⟩
  refine op_v (v_not rfl) rfl ?_
  by_cases h16 : b14 = true
  · subst h16
    obtain ⟨hfc, hfd⟩ := hb14 rfl
    have hsc := hfc.sm
    have hsd := hfd.sm
    refine op_v (v_move rfl) rfl ?_
    first
      | (refine op_want rfl rfl ?_
         refine op_v (v_move rfl) rfl ?_)
      | (refine op_skip rfl rfl (by simp [undef]) rfl ?_)
    first
      | (refine op_want rfl rfl ?_
         refine op_v (v_len Try.underlying26 rfl) rfl ?_)
      | (refine op_skip rfl rfl (by simp [undef]) rfl ?_)
    first
      | (refine op_want rfl rfl ?_
         refine op_v (v_move rfl) rfl ?_)
      | (refine op_skip rfl rfl (by simp [undef]) rfl ?_)
    first
      | (refine op_want rfl rfl ?_
         refine op_v (v_len Try.underlying26 rfl) rfl ?_)
      | (refine op_skip rfl rfl (by simp [undef]) rfl ?_)
    first
      | (refine op_want rfl rfl ?_
         refine op_v (v_addb (c := ((c.length + d.length : Nat) : Int)) rfl rfl (by omega) (by omega)) rfl ?_)
      | (refine op_skip rfl rfl (by simp [undef]) rfl ?_)
    by_cases h22 : 16 < c.length + d.length
    · first
        | (refine op_want rfl rfl ?_
           refine op_v (v_cmpt rfl rfl rfl (by omega)) rfl ?_)
        | (refine op_skip rfl rfl (by simp [undef]) rfl ?_)
      first | refine op_v (v_pickt rfl rfl) rfl ?_ | refine op_v (v_pickf rfl rfl) rfl ?_ | refine op_v (v_pickb rfl rfl rfl) rfl ?_
      refine op_v (v_move rfl) rfl ?_
      first
        | (refine op_want rfl rfl ?_
           refine op_v (v_move rfl) rfl ?_)
        | (refine op_skip rfl rfl (by simp [undef]) rfl ?_)
      first
        | (refine op_want rfl rfl ?_
           refine op_call pl41 rfl rfl ((RVars10_does (ha.mono Imm.leA) (by have := hfc.2; omega))) Parts.none ?_
           rintro v26 I26 _ hI26 ⟨hv26, rfl⟩
           obtain ⟨ea, ec, rfl⟩ := hv26.shape
           have hn26 := hv26.len.1
           have hn26b := uvL_len (sidesL c) [])
        | (refine op_skip rfl rfl (by simp [undef]) rfl ?_)
      first
        | (refine op_want rfl rfl ?_
           refine op_v (v_len Try.underlying62 rfl) rfl ?_)
        | (refine op_skip rfl rfl (by simp [undef]) rfl ?_)
      first
        | (refine op_want rfl rfl ?_
           refine op_v (v_move rfl) rfl ?_)
        | (refine op_skip rfl rfl (by simp [undef]) rfl ?_)
      first
        | (refine op_want rfl rfl ?_
           refine op_call pl41 rfl rfl ((RVars10_does (hb.mono Imm.leA) (by have := hfd.2; omega))) Parts.none ?_
           rintro v29 I29 _ hI29 ⟨hv29, rfl⟩
           obtain ⟨fa, fc, rfl⟩ := hv29.shape
           have hn29b := uvL_len (sidesL d) []
           have hfc2 := hfc.2
           have hfd2 := hfd.2
           simp only [List.length_nil] at hn26b hn29b)
        | (refine op_skip rfl rfl (by simp [undef]) rfl ?_)
      first
        | (refine op_want rfl rfl ?_
           refine op_v (v_len Try.underlying62 rfl) rfl ?_)
        | (refine op_skip rfl rfl (by simp [undef]) rfl ?_)
      first
        | (refine op_want rfl rfl ?_
           refine op_v (v_addb (c := (((uvL [] (sidesL c)).length + (uvL [] (sidesL d)).length : Nat) : Int)) rfl rfl (by omega) (by omega)) rfl ?_)
        | (refine op_skip rfl rfl (by simp [undef]) rfl ?_)
      first
        | (refine op_want rfl rfl ?_
           first | refine op_v (v_cmptA rfl rfl rfl) rfl ?_ | refine op_v (v_cmpfA rfl rfl rfl) rfl ?_ | refine op_v (v_cmp rfl rfl rfl) rfl ?_)
        | (refine op_skip rfl rfl (by simp [undef]) rfl ?_)
      first | refine op_v (v_pickt rfl rfl) rfl ?_ | refine op_v (v_pickf rfl rfl) rfl ?_ | refine op_v (v_pickb rfl rfl rfl) rfl ?_
      refine ops_nil ?_
      refine post_next ?_
      refine code_cond_t rfl ?_
      refine code_seq ?_
      refine code_region ?_
      refine op_v (v_assign rfl) rfl ?_
      refine ops_nil ?_
      refine post_next ?_
      refine code_ret ?_
      refine post_ret_then ?_
      refine post_ret (rs := [.tmp 6]) rfl (List.Perm.refl _) (.cons (.tmp rfl) .nil) (List.nil_sublist _) ?_
      exact ⟨rfl, rfl⟩
    · first
        | (refine op_want rfl rfl ?_
           refine op_v (v_cmpf rfl rfl rfl (by omega)) rfl ?_)
        | (refine op_skip rfl rfl (by simp [undef]) rfl ?_)
      first | refine op_v (v_pickt rfl rfl) rfl ?_ | refine op_v (v_pickf rfl rfl) rfl ?_ | refine op_v (v_pickb rfl rfl rfl) rfl ?_
      refine op_v (v_move rfl) rfl ?_
      first
        | (refine op_want rfl rfl ?_
           refine op_v (v_move rfl) rfl ?_)
        | (refine op_skip rfl rfl (by simp [undef]) rfl ?_)
      first
        | (refine op_want rfl rfl ?_
           refine op_call pl41 rfl rfl ((RVars10_does (ha.mono Imm.leA) (by have := hfc.2; omega))) Parts.none ?_
           rintro v26 I26 _ hI26 ⟨hv26, rfl⟩
           obtain ⟨ea, ec, rfl⟩ := hv26.shape
           have hn26 := hv26.len.1
           have hn26b := uvL_len (sidesL c) [])
        | (refine op_skip rfl rfl (by simp [undef]) rfl ?_)
      first
        | (refine op_want rfl rfl ?_
           refine op_v (v_len Try.underlying62 rfl) rfl ?_)
        | (refine op_skip rfl rfl (by simp [undef]) rfl ?_)
      first
        | (refine op_want rfl rfl ?_
           refine op_v (v_move rfl) rfl ?_)
        | (refine op_skip rfl rfl (by simp [undef]) rfl ?_)
      first
        | (refine op_want rfl rfl ?_
           refine op_call pl41 rfl rfl ((RVars10_does (hb.mono Imm.leA) (by have := hfd.2; omega))) Parts.none ?_
           rintro v29 I29 _ hI29 ⟨hv29, rfl⟩
           obtain ⟨fa, fc, rfl⟩ := hv29.shape
           have hn29b := uvL_len (sidesL d) []
           have hfc2 := hfc.2
           have hfd2 := hfd.2
           simp only [List.length_nil] at hn26b hn29b)
        | (refine op_skip rfl rfl (by simp [undef]) rfl ?_)
      first
        | (refine op_want rfl rfl ?_
           refine op_v (v_len Try.underlying62 rfl) rfl ?_)
        | (refine op_skip rfl rfl (by simp [undef]) rfl ?_)
      first
        | (refine op_want rfl rfl ?_
           refine op_v (v_addb (c := (((uvL [] (sidesL c)).length + (uvL [] (sidesL d)).length : Nat) : Int)) rfl rfl (by omega) (by omega)) rfl ?_)
        | (refine op_skip rfl rfl (by simp [undef]) rfl ?_)
      by_cases h32 : 0 < (uvL [] (sidesL c)).length + (uvL [] (sidesL d)).length
      · first
          | (refine op_want rfl rfl ?_
             refine op_v (v_cmpt rfl rfl rfl (by omega)) rfl ?_)
          | (refine op_skip rfl rfl (by simp [undef]) rfl ?_)
        first | refine op_v (v_pickt rfl rfl) rfl ?_ | refine op_v (v_pickf rfl rfl) rfl ?_ | refine op_v (v_pickb rfl rfl rfl) rfl ?_
        refine ops_nil ?_
        refine post_next ?_
        refine code_cond_t rfl ?_
        refine code_seq ?_
        refine code_region ?_
        refine op_v (v_assign rfl) rfl ?_
        refine ops_nil ?_
        refine post_next ?_
        refine code_ret ?_
        refine post_ret_then ?_
        refine post_ret (rs := [.tmp 6]) rfl (List.Perm.refl _) (.cons (.tmp rfl) .nil) (List.nil_sublist _) ?_
        exact ⟨rfl, rfl⟩
      · have hgc : GrC c := GrC_of (List.eq_nil_of_length_eq_zero (by omega))
        have hgd : GrC d := GrC_of (List.eq_nil_of_length_eq_zero (by omega))
        first
          | (refine op_want rfl rfl ?_
             refine op_v (v_cmpf rfl rfl rfl (by omega)) rfl ?_)
          | (refine op_skip rfl rfl (by simp [undef]) rfl ?_)
        first | refine op_v (v_pickt rfl rfl) rfl ?_ | refine op_v (v_pickf rfl rfl) rfl ?_ | refine op_v (v_pickb rfl rfl rfl) rfl ?_
        refine ops_nil ?_
        refine post_next ?_
        refine code_cond_f rfl ?_
        refine code_skip ?_
        refine post_next ?_
        refine code_seq ?_
        refine code_region ?_
        refine op_v (v_move rfl) rfl ?_
        refine op_v (v_move rfl) rfl ?_
        refine op_v (v_move rfl) rfl ?_
        refine op_call pl42 rfl rfl ((CCompare_does (hg.mono Imm.leA) (ha.mono Imm.leA) (hb.mono Imm.leA) hsc hsd)) Parts.none ?_
        rintro v38 I38 _ hI38 ⟨rfl, rfl⟩
        refine op_v (v_move rfl) rfl ?_
        refine op_v (v_extract rfl rfl) rfl ?_
        refine op_v (v_extract rfl rfl) rfl ?_
        refine op_v (v_assign rfl) rfl ?_
        refine op_v (v_assign rfl) rfl ?_
        refine ops_nil ?_
        refine post_next ?_
        refine code_seq ?_
        refine code_region ?_
        refine op_v (v_move rfl) rfl ?_
        refine op_v (v_move rfl) rfl ?_
        refine op_v (v_move rfl) rfl ?_
        refine op_call pl42 rfl rfl ((CCompare_does (hg.mono Imm.leA) (hb.mono Imm.leA) (ha.mono Imm.leA) hsd hsc)) Parts.none ?_
        rintro v45 I45 _ hI45 ⟨rfl, rfl⟩
        refine op_v (v_move rfl) rfl ?_
        refine op_v (v_extract rfl rfl) rfl ?_
        refine op_v (v_extract rfl rfl) rfl ?_
        refine op_v (v_assign rfl) rfl ?_
        refine op_v (v_assign rfl) rfl ?_
        refine ops_nil ?_
        refine post_next ?_
        refine code_seq ?_
        refine code_seq ?_
        refine code_region ?_
        refine op_v (v_move rfl) rfl ?_
        by_cases h50 : cmpE gs c d ≠ 0
        · first | refine op_v (v_cmptA rfl rfl rfl) rfl ?_ | refine op_v (v_cmpfA rfl rfl rfl) rfl ?_ | refine op_v (v_cmp rfl rfl rfl) rfl ?_
          refine op_v (v_move rfl) rfl ?_
          first
            | (refine op_want rfl rfl ?_
               refine op_v (v_move rfl) rfl ?_)
            | (refine op_skip rfl rfl (by simp [undef]) rfl ?_)
          first
            | (refine op_want rfl rfl ?_
               first | refine op_v (v_cmptA rfl rfl rfl) rfl ?_ | refine op_v (v_cmpfA rfl rfl rfl) rfl ?_ | refine op_v (v_cmp rfl rfl rfl) rfl ?_)
            | (refine op_skip rfl rfl (by simp [undef]) rfl ?_)
          first | refine op_v (v_pickt rfl rfl) rfl ?_ | refine op_v (v_pickf rfl rfl) rfl ?_ | refine op_v (v_pickb rfl rfl rfl) rfl ?_
          refine ops_nil ?_
          refine post_next ?_
          refine code_cond_t rfl ?_
          refine code_seq ?_
          refine code_region ?_
          refine op_call pl33 rfl rfl ((awake10_does _)) Parts.none ?_
          rintro v54 I54 _ hI54 ⟨rfl, rfl⟩
          refine op_v (v_assign rfl) rfl ?_
          refine ops_nil ?_
          refine post_next ?_
          refine code_ret ?_
          refine post_ret_then ?_
          refine post_ret (rs := [.tmp 6]) rfl (List.Perm.refl _) (.cons (.tmp rfl) .nil) (List.nil_sublist _) ?_
          exact ⟨rfl, rfl⟩
        · have he1 : cmpE gs c d = 0 := Classical.not_not.1 h50
          have he2 := cmpE_comm.1 he1
          obtain ⟨hoc, hod⟩ := cmpE_ok he1
          have h2 := cmpC_ground hoc hod hgc hgd
          have hanti := cmpC_anti hoc hod h2
          have hval := cmpC_vals gs c d
          rw [if_pos he1]
          rw [if_pos he2]
          first | refine op_v (v_cmptA rfl rfl rfl) rfl ?_ | refine op_v (v_cmpfA rfl rfl rfl) rfl ?_ | refine op_v (v_cmp rfl rfl rfl) rfl ?_
          refine op_v (v_move rfl) rfl ?_
          first
            | (refine op_want rfl rfl ?_
               refine op_v (v_move rfl) rfl ?_)
            | (refine op_skip rfl rfl (by simp [undef]) rfl ?_)
          first
            | (refine op_want rfl rfl ?_
               refine op_v (v_cmpf rfl rfl rfl (by omega)) rfl ?_)
            | (refine op_skip rfl rfl (by simp [undef]) rfl ?_)
          first | refine op_v (v_pickt rfl rfl) rfl ?_ | refine op_v (v_pickf rfl rfl) rfl ?_ | refine op_v (v_pickb rfl rfl rfl) rfl ?_
          refine ops_nil ?_
          refine post_next ?_
          refine code_cond_f rfl ?_
          refine code_skip ?_
          refine post_next ?_
          refine code_seq ?_
          refine code_region ?_
          refine op_call pl33 rfl rfl ((awake10_does _)) Parts.none ?_
          rintro v55 I55 _ hI55 ⟨rfl, rfl⟩
          refine op_v (v_move rfl) rfl ?_
          first
            | (refine op_want rfl rfl ?_
               refine op_v (v_move rfl) rfl ?_)
            | (refine op_skip rfl rfl (by simp [undef]) rfl ?_)
          first
            | (refine op_want rfl rfl ?_
               refine op_v (v_move rfl) rfl ?_)
            | (refine op_skip rfl rfl (by simp [undef]) rfl ?_)
          first
            | (refine op_want rfl rfl ?_
               refine op_v (v_negb (n := cmpC gs d c) (c := cmpC gs c d) rfl (by omega) (by omega)) rfl ?_)
            | (refine op_skip rfl rfl (by simp [undef]) rfl ?_)
          first
            | (refine op_want rfl rfl ?_
               refine op_v (v_cmpt rfl rfl rfl (by omega)) rfl ?_)
            | (refine op_skip rfl rfl (by simp [undef]) rfl ?_)
          first | refine op_v (v_pickt rfl rfl) rfl ?_ | refine op_v (v_pickf rfl rfl) rfl ?_ | refine op_v (v_pickb rfl rfl rfl) rfl ?_
          refine op_v (v_move rfl) rfl ?_
          first
            | (refine op_want rfl rfl ?_
               refine op_v (v_move rfl) rfl ?_)
            | (refine op_skip rfl rfl (by simp [undef]) rfl ?_)
          first
            | (refine op_want rfl rfl ?_
               refine op_v (v_cmpt rfl rfl rfl (by omega)) rfl ?_)
            | (refine op_skip rfl rfl (by simp [undef]) rfl ?_)
          first | refine op_v (v_pickt rfl rfl) rfl ?_ | refine op_v (v_pickf rfl rfl) rfl ?_ | refine op_v (v_pickb rfl rfl rfl) rfl ?_
          refine op_v (v_move rfl) rfl ?_
          first
            | (refine op_want rfl rfl ?_
               refine op_v (v_move rfl) rfl ?_)
            | (refine op_skip rfl rfl (by simp [undef]) rfl ?_)
          by_cases h68 : cmpC gs c d ≠ 0
          · first
              | (refine op_want rfl rfl ?_
                 first | refine op_v (v_cmptA rfl rfl rfl) rfl ?_ | refine op_v (v_cmpfA rfl rfl rfl) rfl ?_ | refine op_v (v_cmp rfl rfl rfl) rfl ?_)
              | (refine op_skip rfl rfl (by simp [undef]) rfl ?_)
            first
              | (refine op_want rfl rfl ?_
                 refine op_v (v_move rfl) rfl ?_)
              | (refine op_skip rfl rfl (by simp [undef]) rfl ?_)
            first
              | (refine op_want rfl rfl ?_
                 refine op_v (v_move rfl) rfl ?_)
              | (refine op_skip rfl rfl (by simp [undef]) rfl ?_)
            first
              | (refine op_want rfl rfl ?_
                 refine op_v (v_len Try.underlying26 rfl) rfl ?_)
              | (refine op_skip rfl rfl (by simp [undef]) rfl ?_)
            first
              | (refine op_want rfl rfl ?_
                 refine op_v (v_move rfl) rfl ?_)
              | (refine op_skip rfl rfl (by simp [undef]) rfl ?_)
            first
              | (refine op_want rfl rfl ?_
                 refine op_v (v_len Try.underlying26 rfl) rfl ?_)
              | (refine op_skip rfl rfl (by simp [undef]) rfl ?_)
            first
              | (refine op_want rfl rfl ?_
                 refine op_v (v_cmpt rfl rfl rfl (by omega)) rfl ?_)
              | (refine op_skip rfl rfl (by simp [undef]) rfl ?_)
            first
              | (refine op_want rfl rfl ?_
                 first | refine op_v (v_pickt rfl rfl) rfl ?_ | refine op_v (v_pickf rfl rfl) rfl ?_ | refine op_v (v_pickb rfl rfl rfl) rfl ?_)
              | (refine op_skip rfl rfl (by simp [undef]) rfl ?_)
            first | refine op_v (v_pickt rfl rfl) rfl ?_ | refine op_v (v_pickf rfl rfl) rfl ?_ | refine op_v (v_pickb rfl rfl rfl) rfl ?_
            refine op_v (v_move rfl) rfl ?_
            first
              | (refine op_want rfl rfl ?_
                 refine op_v (v_move rfl) rfl ?_)
              | (refine op_skip rfl rfl (by simp [undef]) rfl ?_)
            first
              | (refine op_want rfl rfl ?_
                 refine op_call pl44 rfl rfl ((CVars_does (ha.mono Imm.leA) (by omega))) Parts.none ?_
                 rintro v79 I79 _ hI79 ⟨hv79, rfl⟩
                 rw [varsC_none hgc] at hv79)
              | (refine op_skip rfl rfl (by simp [undef]) rfl ?_)
            first
              | (refine op_want rfl rfl ?_
                 refine op_call pl43 rfl rfl ((Ints_does _ (RInts.nil _) hv79)) Parts.none ?_
                 rintro v80 I80 _ hI80 ⟨rfl, rfl⟩)
              | (refine op_skip rfl rfl (by simp [undef]) rfl ?_)
            first | refine op_v (v_pickt rfl rfl) rfl ?_ | refine op_v (v_pickf rfl rfl) rfl ?_ | refine op_v (v_pickb rfl rfl rfl) rfl ?_
            refine op_v (v_assign rfl) rfl ?_
            refine ops_nil ?_
            refine post_next ?_
            refine code_ret ?_
            refine post_ret (rs := [.tmp 6]) rfl (List.Perm.refl _) (.cons (.tmp rfl) .nil) (List.nil_sublist _) ?_
            exact ⟨rfl, rfl⟩
          · have hlen := cmpC_len (Classical.not_not.1 h68)
            first
              | (refine op_want rfl rfl ?_
                 first | refine op_v (v_cmptA rfl rfl rfl) rfl ?_ | refine op_v (v_cmpfA rfl rfl rfl) rfl ?_ | refine op_v (v_cmp rfl rfl rfl) rfl ?_)
              | (refine op_skip rfl rfl (by simp [undef]) rfl ?_)
            first
              | (refine op_want rfl rfl ?_
                 refine op_v (v_move rfl) rfl ?_)
              | (refine op_skip rfl rfl (by simp [undef]) rfl ?_)
            first
              | (refine op_want rfl rfl ?_
                 refine op_v (v_move rfl) rfl ?_)
              | (refine op_skip rfl rfl (by simp [undef]) rfl ?_)
            first
              | (refine op_want rfl rfl ?_
                 refine op_v (v_len Try.underlying26 rfl) rfl ?_)
              | (refine op_skip rfl rfl (by simp [undef]) rfl ?_)
            first
              | (refine op_want rfl rfl ?_
                 refine op_v (v_move rfl) rfl ?_)
              | (refine op_skip rfl rfl (by simp [undef]) rfl ?_)
            first
              | (refine op_want rfl rfl ?_
                 refine op_v (v_len Try.underlying26 rfl) rfl ?_)
              | (refine op_skip rfl rfl (by simp [undef]) rfl ?_)
            first
              | (refine op_want rfl rfl ?_
                 refine op_v (v_cmpt rfl rfl rfl (by omega)) rfl ?_)
              | (refine op_skip rfl rfl (by simp [undef]) rfl ?_)
            first
              | (refine op_want rfl rfl ?_
                 first | refine op_v (v_pickt rfl rfl) rfl ?_ | refine op_v (v_pickf rfl rfl) rfl ?_ | refine op_v (v_pickb rfl rfl rfl) rfl ?_)
              | (refine op_skip rfl rfl (by simp [undef]) rfl ?_)
            first | refine op_v (v_pickt rfl rfl) rfl ?_ | refine op_v (v_pickf rfl rfl) rfl ?_ | refine op_v (v_pickb rfl rfl rfl) rfl ?_
            refine op_v (v_move rfl) rfl ?_
            first
              | (refine op_want rfl rfl ?_
                 refine op_v (v_move rfl) rfl ?_)
              | (refine op_skip rfl rfl (by simp [undef]) rfl ?_)
            first
              | (refine op_want rfl rfl ?_
                 refine op_call pl44 rfl rfl ((CVars_does (ha.mono Imm.leA) (by omega))) Parts.none ?_
                 rintro v79 I79 _ hI79 ⟨hv79, rfl⟩
                 rw [varsC_none hgc] at hv79)
              | (refine op_skip rfl rfl (by simp [undef]) rfl ?_)
            first
              | (refine op_want rfl rfl ?_
                 refine op_call pl43 rfl rfl ((Ints_does _ (RInts.nil _) hv79)) Parts.none ?_
                 rintro v80 I80 _ hI80 ⟨rfl, rfl⟩)
              | (refine op_skip rfl rfl (by simp [undef]) rfl ?_)
            first | refine op_v (v_pickt rfl rfl) rfl ?_ | refine op_v (v_pickf rfl rfl) rfl ?_ | refine op_v (v_pickb rfl rfl rfl) rfl ?_
            refine op_v (v_assign rfl) rfl ?_
            refine ops_nil ?_
            refine post_next ?_
            refine code_ret ?_
            refine post_ret (rs := [.tmp 6]) rfl (List.Perm.refl _) (.cons (.tmp rfl) .nil) (List.nil_sublist _) ?_
            exact ⟨rfl, rfl⟩
  · have h16' : b14 = false := by simpa using h16
    subst h16'
    refine op_v (v_move rfl) rfl ?_
    first
      | (refine op_want rfl rfl ?_
         refine op_v (v_move rfl) rfl ?_)
      | (refine op_skip rfl rfl (by simp [undef]) rfl ?_)
    first
      | (refine op_want rfl rfl ?_
         refine op_v (v_len Try.underlying26 rfl) rfl ?_)
      | (refine op_skip rfl rfl (by simp [undef]) rfl ?_)
    first
      | (refine op_want rfl rfl ?_
         refine op_v (v_move rfl) rfl ?_)
      | (refine op_skip rfl rfl (by simp [undef]) rfl ?_)
    first
      | (refine op_want rfl rfl ?_
         refine op_v (v_len Try.underlying26 rfl) rfl ?_)
      | (refine op_skip rfl rfl (by simp [undef]) rfl ?_)
    first
      | (refine op_want rfl rfl ?_
         refine op_v (v_addb (c := ((c.length + d.length : Nat) : Int)) rfl rfl (by omega) (by omega)) rfl ?_)
      | (refine op_skip rfl rfl (by simp [undef]) rfl ?_)
    first
      | (refine op_want rfl rfl ?_
         first | refine op_v (v_cmptA rfl rfl rfl) rfl ?_ | refine op_v (v_cmpfA rfl rfl rfl) rfl ?_ | refine op_v (v_cmp rfl rfl rfl) rfl ?_)
      | (refine op_skip rfl rfl (by simp [undef]) rfl ?_)
    first | refine op_v (v_pickt rfl rfl) rfl ?_ | refine op_v (v_pickf rfl rfl) rfl ?_ | refine op_v (v_pickb rfl rfl rfl) rfl ?_
    refine op_v (v_move rfl) rfl ?_
    first
      | (refine op_want rfl rfl ?_
         refine op_v (v_move rfl) rfl ?_)
      | (refine op_skip rfl rfl (by simp [undef]) rfl ?_)
    first
      | (refine op_want rfl rfl ?_
         refine op_call pl41 rfl rfl ((RVars10_does (ha.mono Imm.leA) (by have := hfc.2; omega))) Parts.none ?_
         rintro v26 I26 _ hI26 ⟨hv26, rfl⟩
         obtain ⟨ea, ec, rfl⟩ := hv26.shape
         have hn26 := hv26.len.1
         have hn26b := uvL_len (sidesL c) [])
      | (refine op_skip rfl rfl (by simp [undef]) rfl ?_)
    first
      | (refine op_want rfl rfl ?_
         refine op_v (v_len Try.underlying62 rfl) rfl ?_)
      | (refine op_skip rfl rfl (by simp [undef]) rfl ?_)
    first
      | (refine op_want rfl rfl ?_
         refine op_v (v_move rfl) rfl ?_)
      | (refine op_skip rfl rfl (by simp [undef]) rfl ?_)
    first
      | (refine op_want rfl rfl ?_
         refine op_call pl41 rfl rfl ((RVars10_does (hb.mono Imm.leA) (by have := hfd.2; omega))) Parts.none ?_
         rintro v29 I29 _ hI29 ⟨hv29, rfl⟩
         obtain ⟨fa, fc, rfl⟩ := hv29.shape
         have hn29b := uvL_len (sidesL d) []
         have hfc2 := hfc.2
         have hfd2 := hfd.2
         simp only [List.length_nil] at hn26b hn29b)
      | (refine op_skip rfl rfl (by simp [undef]) rfl ?_)
    first
      | (refine op_want rfl rfl ?_
         refine op_v (v_len Try.underlying62 rfl) rfl ?_)
      | (refine op_skip rfl rfl (by simp [undef]) rfl ?_)
    first
      | (refine op_want rfl rfl ?_
         refine op_v (v_addb (c := (((uvL [] (sidesL c)).length + (uvL [] (sidesL d)).length : Nat) : Int)) rfl rfl (by omega) (by omega)) rfl ?_)
      | (refine op_skip rfl rfl (by simp [undef]) rfl ?_)
    first
      | (refine op_want rfl rfl ?_
         first | refine op_v (v_cmptA rfl rfl rfl) rfl ?_ | refine op_v (v_cmpfA rfl rfl rfl) rfl ?_ | refine op_v (v_cmp rfl rfl rfl) rfl ?_)
      | (refine op_skip rfl rfl (by simp [undef]) rfl ?_)
    first | refine op_v (v_pickt rfl rfl) rfl ?_ | refine op_v (v_pickf rfl rfl) rfl ?_ | refine op_v (v_pickb rfl rfl rfl) rfl ?_
    refine ops_nil ?_
    refine post_next ?_
    refine code_cond_t rfl ?_
    refine code_seq ?_
    refine code_region ?_
    refine op_v (v_assign rfl) rfl ?_
    refine ops_nil ?_
    refine post_next ?_
    refine code_ret ?_
    refine post_ret_then ?_
    refine post_ret (rs := [.tmp 6]) rfl (List.Perm.refl _) (.cons (.tmp rfl) .nil) (List.nil_sublist _) ?_
    exact ⟨rfl, rfl⟩
end Go.Proofs.Ytdbadicpbmndbaa
/- What a row's reading of its arguments says of the heap; plain facts, no condition. -/
set_option linter.unusedVariables false
set_option linter.unusedSimpArgs false
namespace Go.Proofs.Ytdbadicpbmndbaa
open Go Lg Go.ChangeShapes Go.WideShapes Go.ChangeAt Go.RowKit

/-- the whole heap, as what is only read -/
def hImm (w : World) : Imm := fun b => w.heap[b]?
theorem hSat (w : World) : Sat w (hImm w) [] := ⟨fun _ _ h => h, fun x hx => by simp at hx, by simp [blks], fun b hb => by simp [blks] at hb⟩
theorem hCell (w : World) (a : Addr) : (hImm w).cell a = w.cell? a := rfl
theorem wf_in {n : Int} (h : (Lit.int .i64 n).wf = true) : InR n := by
  simp only [Lit.wf, Bool.and_eq_true, decide_eq_true_eq] at h
  have h1 : IntKind.i64.min = -9223372036854775808 := by decide
  have h2 : IntKind.i64.max = 9223372036854775807 := by decide
  unfold InR; omega

variable {H : Type} {enc : TypeId × Value → H} {P : Program} {W : World} {spare : Nat → Bool} {held : Bool}

theorem weights_at {ts : List TypeId} {ds : List (DataW H)} (h : (DataW.weightsEach P ts ds).all (· ≤ reachBytes) = true) : ∀ (j : Nat) (t : TypeId) (d : DataW H), ts[j]? = some t → ds[j]? = some d → (d.weights P t).all (· ≤ reachBytes) = true := by
  induction ts generalizing ds with
  | nil => intro j t d ht; simp at ht
  | cons t0 ts ih =>
    cases ds with
    | nil => intro j t d _ hd; simp at hd
    | cons d0 ds =>
      simp only [DataW.weightsEach, List.all_append, Bool.and_eq_true] at h
      intro j t d ht hd
      cases j with
      | zero => simp at ht hd; subst ht; subst hd; exact h.1
      | succ j => exact ih h.2 j t d (by simpa using ht) (by simpa using hd)
theorem weights_all {e : TypeId} {ds : List (DataW H)} (h : (DataW.weightsAll P e ds).all (· ≤ reachBytes) = true) : ∀ d ∈ ds, (d.weights P e).all (· ≤ reachBytes) = true := by
  induction ds with
  | nil => intro d hd; cases hd
  | cons d0 ds ih =>
    simp only [DataW.weightsAll, List.all_append, Bool.and_eq_true] at h
    intro d hd
    rcases List.mem_cons.1 hd with rfl | hd
    · exact h.1
    · exact ih h.2 d hd

theorem openI {t e : TypeId} {a : Option Addr} {len cap : Nat} {d : DataW H} {ps : List MemPlace} (ht : P.underlying t = some (.slice e)) (he : P.underlying e = some (.int .i64)) (hc : P.cellsOf e = 1) (hB : P.bytesOf e = 8)
    (h : DataW.Trod enc P W 0 spare held t (.slice a len cap) d ps) (hw : (d.weights P t).all (· ≤ reachBytes) = true) : ∃ xs, RInts (hImm W) (.slice a len cap) xs := by
  obtain ⟨fuel, hf⟩ := h
  rcases open_ints ht he hc hf with ⟨hcs, _⟩ | ⟨x, l, c, zs, hcs, _, hl, hm, hz, hx, hcell, hwz⟩
  · simp [Value.cells] at hcs
    obtain ⟨rfl, rfl, rfl⟩ := hcs
    exact ⟨[], RInts.nil _⟩
  · simp [Value.cells] at hcs
    obtain ⟨rfl, rfl, rfl⟩ := hcs
    obtain ⟨hx, _⟩ := Prod.mk.inj hx
    subst hx
    have hzl : len ≤ zs.length := by rw [hz]; split <;> omega
    have hlen : (zs.take len).length = len := by rw [List.length_take]; omega
    simp only [DataW.weights, ht, hB, List.all_cons, Bool.and_eq_true, decide_eq_true_eq] at hw
    have hb : len * 8 ≤ reachBytes := by
      refine Nat.le_trans ?_ hw.1
      simp [lits]; omega
    have hrb : reachBytes = 140737488351232 := rfl
    refine ⟨zs.take len, RInts.of hlen.symm hl (by omega) (fun j v hj => ?_) (fun y hy => wf_in (hwz y (List.mem_of_mem_take hy)))⟩
    have hjl : j < len := by have := (List.getElem?_eq_some_iff.1 hj).1; simp at this; omega
    have hc := hcell j (by omega)
    rw [List.map_take, List.getElem?_take_of_lt hjl] at hj
    have e : v = .int .i64 (zs.getD j 0) := by
      have hjz : j < zs.length := by omega
      simp [hjz] at hj
      simp [hjz, hj]
    subst e
    exact hc

theorem pick_list {α : Type} {n : Nat} {p : Nat → α → Prop} (h : ∀ i, i < n → ∃ a, p i a) : ∃ l : List α, l.length = n ∧ ∀ i (hi : i < l.length), p i l[i] := by
  induction n with
  | zero => exact ⟨[], rfl, fun i hi => by simp at hi⟩
  | succ n ih =>
    obtain ⟨l, h1, h2⟩ := ih fun i hi => h i (by omega)
    obtain ⟨a, ha⟩ := h n (by omega)
    refine ⟨l ++ [a], by simp [h1], fun i hi => ?_⟩
    by_cases hlt : i < l.length
    · rw [List.getElem_append_left hlt]; exact h2 i hlt
    · have e : i = l.length := by simp at hi; omega
      subst e
      simp [h1, ha]

theorem cells_two {a : Addr} {cs : List Value} (h : W.cells? 0 a 2 = some cs) : ∃ u v, cs = [u, v] ∧ W.cell? a = some u ∧ W.cell? (a.add 1) = some v := by
  simp only [World.cells?, Nat.zero_le, if_true] at h
  have hr : List.range 2 = [0, 1] := rfl
  rw [hr] at h
  simp only [List.mapM_cons, List.mapM_nil, Option.bind_eq_bind, Option.bind_eq_some_iff, Option.pure_def, Option.some.injEq] at h
  obtain ⟨u, hu, r, ⟨v, hv, r2, rfl, rfl⟩, rfl⟩ := h
  have ha : a.add 0 = a := by simp [Addr.add]
  rw [ha] at hu
  exact ⟨u, v, rfl, hu, hv⟩

/-- a struct of a number and a row of its own kind -/
structure TreeTy (P : Program) (tT tS tI : TypeId) : Prop where
  str : ∃ fs : Array Field, P.underlying tT = some (.struct fs) ∧ fs.size = 2 ∧ (∃ f0 f1 : Field, fs[0]? = some f0 ∧ fs[1]? = some f1 ∧ f0.type = tI ∧ f0.offset = 0 ∧ f1.type = tS ∧ f1.offset = 1 ∧ fs.toList.map (·.type) = [tI, tS])
  sl : P.underlying tS = some (.slice tT)
  int : P.underlying tI = some (.int .i64)
  cT : P.cellsOf tT = 2
  cS : P.cellsOf tS = 1
  cI : P.cellsOf tI = 1
  bT : P.bytesOf tT = 32

theorem openT {tT tS tI : TypeId} (ty : TreeTy P tT tS tI) : ∀ (fuel : Nat) (cs : List Value) (d : DataW H) (ps : List MemPlace), DataW.trod enc P W 0 spare held fuel tT cs = some (d, ps) → (d.weights P tT).all (· ≤ reachBytes) = true →
    ∃ (s : Value) (t : T), cs = [.int .i64 t.head, s] ∧ RepT (hImm W) (.agg #[.int .i64 t.head, s]) t := by
  intro fuel
  induction fuel using Nat.strongRecOn with
  | _ fuel ih =>
    intro cs d ps h hw
    obtain ⟨fs, hfs, hsz, f0, f1, hf0, hf1, ht0, ho0, ht1, ho1, hts⟩ := ty.str
    obtain ⟨xs, n, rfl, hx, hcl, hxl, hxs⟩ := DataW.trod_struct hfs h
    rw [ty.cT] at hcl
    obtain ⟨u, v, rfl⟩ : ∃ u v, cs = [u, v] := by
      rcases cs with _ | ⟨u, _ | ⟨v, _ | ⟨_, _⟩⟩⟩
      · simp at hcl
      · simp at hcl
      · exact ⟨u, v, rfl⟩
      · simp at hcl
    have h0 := hxs 0 f0 hf0
    have h1 := hxs 1 f1 hf1
    rw [ht0, ho0, ty.cI] at h0
    rw [ht1, ho1, ty.cS] at h1
    simp only [List.drop_zero, List.drop_succ_cons, List.take_succ_cons, List.take_zero] at h0 h1
    rw [hsz] at hxl
    obtain ⟨x0, x1, rfl⟩ : ∃ x0 x1, xs = [x0, x1] := by
      rcases xs with _ | ⟨u, _ | ⟨v, _ | ⟨_, _⟩⟩⟩
      · simp at hxl
      · simp at hxl
      · exact ⟨u, v, rfl⟩
      · simp at hxl
    simp only [List.getElem?_cons_zero, List.getElem?_cons_succ] at h0 h1
    obtain ⟨m, hm, _, hwf⟩ := DataW.trod_int ty.int h0
    simp only [List.cons.injEq, and_true] at hm
    subst hm
    simp only [Prod.mk.injEq] at hx
    obtain ⟨rfl, _⟩ := hx
    simp only [DataW.weights, hfs, hts, List.map_cons, List.map_nil, DataW.weightsEach, List.all_append, Bool.and_eq_true] at hw
    have hw1 := hw.2.1
    rcases DataW.trod_slice ty.sl h1 with ⟨hcs, _⟩ | ⟨a, len, cap, elems, rest, n', rfl, hcs, rfl, _, hl, hm, hlen, hel, hsp, _⟩
    · simp only [List.cons.injEq, and_true] at hcs
      subst hcs
      exact ⟨_, .mk m [], rfl, RepT.mk _ (.mk m []) (wf_in hwf) (RepS.nil _)⟩
    · simp only [List.cons.injEq, and_true] at hcs
      subst hcs
      simp only [DataW.weights, ty.sl, ty.bT, List.all_cons, List.all_append, Bool.and_eq_true, decide_eq_true_eq] at hw1
      obtain ⟨hwl, hwe, _⟩ := hw1
      have hwe' := weights_all hwe
      have hrb : reachBytes = 140737488351232 := rfl
      simp only [List.length_map, hlen] at hwl
      have hall : ∀ i, i < len → ∃ t : T, ∃ s : Option Addr × Nat, At (hImm W) (some a) (i * 2) [.int .i64 t.head, .slice s.1 t.args.length s.2] ∧ RepT (hImm W) (.agg #[.int .i64 t.head, .slice s.1 t.args.length s.2]) t := by
        intro i hi
        have hy := hel i hi
        rw [ty.cT] at hy
        have hie : elems[i]? = some elems[i] := List.getElem?_eq_getElem (by omega)
        rw [hie, Option.bind_eq_some_iff] at hy
        obtain ⟨cs, hcs, htr⟩ := hy
        obtain ⟨u, v, rfl, hu, hv⟩ := cells_two hcs
        obtain ⟨s, t, he, hr⟩ := ih n' (by omega) _ elems[i].1 elems[i].2 htr (hwe' _ (List.mem_map.2 ⟨_, List.getElem_mem (by omega), rfl⟩))
        obtain ⟨sa, sc, hsh, _⟩ := hr.shape
        have hs : s = .slice sa t.args.length sc := by simpa using hsh
        subst hs
        simp only [List.cons.injEq, and_true] at he
        obtain ⟨rfl, rfl⟩ := he
        refine ⟨t, (sa, sc), fun j x hj => ?_, hr⟩
        rcases j with _ | _ | j
        · simp at hj; subst hj; exact hu
        · simp at hj; subst hj
          show W.cell? (a.add (i * 2 + 1)) = _
          rw [← add_add]; exact hv
        · simp at hj
      obtain ⟨ts, htl, hts2⟩ := pick_list hall
      have hss : ∃ ss : Nat → Option Addr × Nat, ∀ i (hi : i < ts.length), At (hImm W) (some a) (i * 2) [.int .i64 ts[i].head, .slice (ss i).1 ts[i].args.length (ss i).2] ∧ RepT (hImm W) (.agg #[.int .i64 ts[i].head, .slice (ss i).1 ts[i].args.length (ss i).2]) ts[i] := by
        classical
        exact ⟨fun i => if hi : i < ts.length then (hts2 i hi).choose else (none, 0), fun i hi => by simp only [dif_pos hi]; exact (hts2 i hi).choose_spec⟩
      obtain ⟨ss, hss⟩ := hss
      subst htl
      exact ⟨_, .mk m ts, rfl, RepT.intro ss (wf_in hwf) hl (by omega) (fun i hi => (hss i hi).1) (fun i hi => (hss i hi).2)⟩

theorem openTv {tT tS tI : TypeId} (ty : TreeTy P tT tS tI) {v : Value} {d : DataW H} {ps : List MemPlace} (h : DataW.Trod enc P W 0 spare held tT v d ps) (hw : (d.weights P tT).all (· ≤ reachBytes) = true) (hv : ∃ cs, v = .agg cs ∧ cs.size = P.cellsOf tT) : ∃ t, RepT (hImm W) v t := by
  obtain ⟨fuel, hf⟩ := h
  obtain ⟨s, t, hc, hr⟩ := openT ty fuel _ d ps hf hw
  obtain ⟨cs, rfl, _⟩ := hv
  have e : cs = #[.int .i64 t.head, s] := by
    apply Array.ext'
    simpa [Value.cells] using hc
  subst e
  exact ⟨t, hr⟩
theorem tr_below {w w' : World} {I I' : Imm} {δ' : List Ent} (h : Tr w I [] w' I' δ') : Below w.heap.size w w' := ⟨h.os, h.tape, h.output, h.size, fun k hk => h.same k hk (by simp [blks])⟩
end Go.Proofs.Ytdbadicpbmndbaa
/- What a row's reading of a literal says of the heap; plain facts, no condition. -/
set_option linter.unusedVariables false
set_option linter.unusedSimpArgs false
namespace Go.Proofs.Ytdbadicpbmndbaa
open Go Lg Go.ChangeShapes Go.WideShapes Go.ChangeAt Go.RowKit
variable {H : Type} {enc : TypeId × Value → H} {P : Program} {W : World} {spare : Nat → Bool} {held : Bool}
structure LiLay (P : Program) (tL tT tTs tI tb : TypeId) : Prop where
  tree : TreeTy P tT tTs tI
  str : ∃ f0 f1 f2 : Field, P.underlying tL = some (.struct #[f0, f1, f2]) ∧ (f0.type = tb ∧ f0.offset = 0) ∧ (f1.type = tT ∧ f1.offset = 1) ∧ f2.type = tT ∧ f2.offset = 3
  ub : P.underlying tb = some .bool
  cL : P.cellsOf tL = 5
  cb : P.cellsOf tb = 1
theorem openLi {tL tT tTs tI tb : TypeId} (ly : LiLay P tL tT tTs tI tb) {fuel : Nat} {cs : List Value} {x : DataW H × List MemPlace} (h : DataW.trod enc P W 0 spare held fuel tL cs = some x) (hw : (x.1.weights P tL).all (· ≤ reachBytes) = true) :
    ∃ (y : Li) (la ra : Option Addr) (lc rc : Nat), cs = [.bool y.neg, .int .i64 y.l.head, .slice la y.l.args.length lc, .int .i64 y.r.head, .slice ra y.r.args.length rc] ∧ RepT (hImm W) (.agg #[.int .i64 y.l.head, .slice la y.l.args.length lc]) y.l ∧ RepT (hImm W) (.agg #[.int .i64 y.r.head, .slice ra y.r.args.length rc]) y.r := by
  obtain ⟨f0, f1, f2, hs, ⟨e1, e2⟩, ⟨g1, g2⟩, k1, k2⟩ := ly.str
  obtain ⟨xs, n, rfl, hx, hcl, hxl, hxs⟩ := DataW.trod_struct hs h
  rw [ly.cL] at hcl
  obtain ⟨a, b, c, d, e, rfl⟩ : ∃ a b c d e, cs = [a, b, c, d, e] := by
    rcases cs with _ | ⟨a, _ | ⟨b, _ | ⟨c, _ | ⟨d, _ | ⟨e, _ | ⟨_, _⟩⟩⟩⟩⟩⟩ <;> simp at hcl
    exact ⟨a, b, c, d, e, rfl⟩
  have q0 := hxs 0 f0 rfl
  have q1 := hxs 1 f1 rfl
  have q2 := hxs 2 f2 rfl
  have hx3 : xs.length = 3 := hxl
  obtain ⟨x0, x1, x2, rfl⟩ : ∃ x0 x1 x2, xs = [x0, x1, x2] := by
    rcases xs with _ | ⟨u, _ | ⟨v, _ | ⟨w, _ | ⟨_, _⟩⟩⟩⟩ <;> simp at hx3
    exact ⟨u, v, w, rfl⟩
  rw [e1, e2, ly.cb] at q0
  rw [g1, g2, ly.tree.cT] at q1
  rw [k1, k2, ly.tree.cT] at q2
  simp only [List.drop_zero, List.drop_succ_cons, List.take_succ_cons, List.take_zero, List.getElem?_cons_zero, List.getElem?_cons_succ] at q0 q1 q2
  subst hx
  have hts : (#[f0, f1, f2] : Array Field).toList.map (·.type) = [tb, tT, tT] := by simp [e1, g1, k1]
  simp only [DataW.weights, hs, hts, List.map_cons, List.map_nil, DataW.weightsEach, List.all_append, Bool.and_eq_true] at hw
  obtain ⟨m, hm, _⟩ := DataW.trod_bool ly.ub q0
  obtain ⟨s, t, hc, hr⟩ := openT ly.tree n _ x1.1 x1.2 q1 hw.2.1
  obtain ⟨s', t', hc', hr'⟩ := openT ly.tree n _ x2.1 x2.2 q2 hw.2.2.1
  obtain ⟨sa, sc, hsh, _⟩ := hr.shape
  obtain ⟨sa', sc', hsh', _⟩ := hr'.shape
  have hse : s = .slice sa t.args.length sc := by simpa using hsh
  have hse' : s' = .slice sa' t'.args.length sc' := by simpa using hsh'
  subst hse; subst hse'
  simp only [List.cons.injEq, and_true] at hm hc hc'
  obtain ⟨rfl, rfl⟩ := hc
  obtain ⟨rfl, rfl⟩ := hc'
  subst hm
  exact ⟨⟨m, t, t'⟩, sa, sa', sc, sc', rfl, hr, hr'⟩
theorem openLv {tL tT tTs tI tb : TypeId} (ly : LiLay P tL tT tTs tI tb) {v : Value} {d : DataW H} {ps : List MemPlace} (h : DataW.Trod enc P W 0 spare held tL v d ps) (hw : (d.weights P tL).all (· ≤ reachBytes) = true) (hv : ∃ cs, v = .agg cs) : ∃ x, RepL (hImm W) v x := by
  obtain ⟨cs, rfl⟩ := hv
  obtain ⟨fuel, h1⟩ := h
  obtain ⟨y, la, ra, lc, rc, hc, hl, hr⟩ := openLi ly h1 hw
  refine ⟨y, la, lc, ra, rc, ?_, hl, hr⟩
  have : cs.toList = [.bool y.neg, .int .i64 y.l.head, .slice la y.l.args.length lc, .int .i64 y.r.head, .slice ra y.r.args.length rc] := by simpa [Value.cells] using hc
  cases cs; simp at this; subst this; rfl
end Go.Proofs.Ytdbadicpbmndbaa
/- What a row's reading of a clause, and of a script of stores, says of the heap; plain facts, no condition. -/
set_option linter.unusedVariables false
set_option linter.unusedSimpArgs false
namespace Go.Proofs.Ytdbadicpbmndbaa
open Go Lg Go.ChangeShapes Go.WideShapes Go.ChangeAt Go.RowKit
variable {H : Type} {enc : TypeId × Value → H} {P : Program} {W : World} {spare : Nat → Bool} {held : Bool}
theorem cells_allC {a : Addr} {n : Nat} {cs : List Value} (h : W.cells? 0 a n = some cs) : cs.length = n ∧ ∀ j v, cs[j]? = some v → W.cell? (a.add j) = some v := by
  simp only [World.cells?, Nat.zero_le, if_true] at h
  have key : ∀ (l : List Nat) (cs : List Value), l.mapM (fun i => W.cell? (a.add i)) = some cs → cs.length = l.length ∧ ∀ (j : Nat) (v : Value), cs[j]? = some v → ∃ i : Nat, l[j]? = some i ∧ W.cell? (a.add i) = some v := by
    intro l
    induction l with
    | nil => intro cs h; simp at h; subst h; exact ⟨rfl, fun j v h => by simp at h⟩
    | cons i l ih =>
      intro cs h
      simp only [List.mapM_cons, Option.bind_eq_bind, Option.bind_eq_some_iff, Option.pure_def, Option.some.injEq] at h
      obtain ⟨u, hu, r, hr, rfl⟩ := h
      obtain ⟨h1, h2⟩ := ih r hr
      refine ⟨by simp [h1], fun j v hj => ?_⟩
      cases j with
      | zero => simp at hj; subst hj; exact ⟨i, rfl, hu⟩
      | succ j => simpa using h2 j v (by simpa using hj)
  obtain ⟨h1, h2⟩ := key _ _ h
  refine ⟨by simpa using h1, fun j v hj => ?_⟩
  obtain ⟨i, hi, hc⟩ := h2 j v hj
  have hlt : j < n := by have := (List.getElem?_eq_some_iff.1 hi).1; simpa using this
  rw [List.getElem?_range hlt] at hi
  cases hi
  exact hc
theorem rowE_of {n : Nat} {α : Type} {E : Elt n α} {I : Imm} {ad : Option Addr} : ∀ (al : List α) (vss : List (List Value)), vss.length = al.length → (∀ i (h : i < al.length) (h' : i < vss.length), E.R I al[i] vss[i] ∧ At I ad (i * n) vss[i]) → RowE E I vss.flatten al ∧ ∀ m, (∀ i (h' : i < vss.length), At I ad (m * n + i * n) vss[i]) → ∀ j v, vss.flatten[j]? = some v → I.cellO (ad.map (·.add (m * n + j))) = some v
  | [], vss, hl, h => by
    have : vss = [] := List.eq_nil_of_length_eq_zero hl
    subst this
    exact ⟨rfl, fun m _ j v hj => by simp at hj⟩
  | a :: al, [], hl, h => by simp at hl
  | a :: al, vs :: vss, hl, h => by
    have hl' : vss.length = al.length := by simpa using hl
    have h0 := h 0 (by simp) (by simp)
    have hn : vs.length = n := E.len h0.1
    refine ⟨⟨vs, vss.flatten, rfl, h0.1, ?_⟩, ?_⟩
    · have key : ∀ (al : List α) (vss : List (List Value)), vss.length = al.length → (∀ i (h : i < al.length) (h' : i < vss.length), E.R I al[i] vss[i]) → RowE E I vss.flatten al := by
        intro al
        induction al with
        | nil => intro vss hl _; have : vss = [] := List.eq_nil_of_length_eq_zero hl; subst this; rfl
        | cons a al ih =>
          intro vss hl h
          rcases vss with _ | ⟨vs, vss⟩
          · simp at hl
          · exact ⟨vs, vss.flatten, rfl, h 0 (by simp) (by simp), ih vss (by simpa using hl) fun i h1 h2 => h (i + 1) (by simpa using h1) (by simpa using h2)⟩
      exact key al vss hl' fun i h1 h2 => (h (i + 1) (by simpa using h1) (by simpa using h2)).1
    · intro m hm j v hj
      have key : ∀ (vss : List (List Value)) (m : Nat), (∀ vs ∈ vss, vs.length = n) → (∀ i (h' : i < vss.length), At I ad (m * n + i * n) vss[i]) → ∀ j v, vss.flatten[j]? = some v → I.cellO (ad.map (·.add (m * n + j))) = some v := by
        intro vss
        induction vss with
        | nil => intro m _ _ j v hj; simp at hj
        | cons vs vss ih =>
          intro m hlen hm j v hj
          rw [List.flatten_cons] at hj
          have hvl := hlen vs (List.mem_cons_self ..)
          by_cases q : j < vs.length
          · rw [List.getElem?_append_left q] at hj
            have := hm 0 (by simp) j v hj
            simpa using this
          · rw [List.getElem?_append_right (by omega)] at hj
            have := ih (m + 1) (fun ws hw => hlen ws (List.mem_cons_of_mem _ hw)) (fun i h' => by
              have := hm (i + 1) (by simpa using h')
              rw [Nat.succ_mul] at this ⊢
              rw [show m * n + n + i * n = m * n + (i * n + n) by omega]
              simpa using this) (j - vs.length) v hj
            rw [Nat.succ_mul, show m * n + n + (j - vs.length) = m * n + j by omega] at this
            exact this
      have hlen : ∀ ws ∈ vs :: vss, ws.length = n := by
        intro ws hw
        obtain ⟨i, hi, rfl⟩ := List.getElem_of_mem hw
        exact E.len (h i (by rw [← hl]; exact hi) hi).1
      exact key (vs :: vss) m hlen hm j v hj
theorem repE_of {n : Nat} {α : Type} {E : Elt n α} {I : Imm} {ad : Option Addr} {c : Nat} (al : List α) (hc : al.length ≤ c) (hb : al.length ≤ 1954687338211) (h : ∀ i (h : i < al.length), ∃ vs, E.R I al[i] vs ∧ At I ad (i * n) vs) : RepE E I (.slice ad al.length c) al := by
  have hex : ∃ vss : List (List Value), vss.length = al.length ∧ ∀ i (h : i < al.length) (h' : i < vss.length), E.R I al[i] vss[i] ∧ At I ad (i * n) vss[i] := by
    classical
    refine ⟨(List.range al.length).map fun i => if h' : i < al.length then (h i h').choose else [], by simp, fun i h1 h2 => ?_⟩
    rw [List.getElem_map, List.getElem_range, dif_pos h1]
    exact (h i h1).choose_spec
  obtain ⟨vss, hl, hv⟩ := hex
  obtain ⟨h1, h2⟩ := rowE_of al vss hl hv
  refine ⟨ad, c, vss.flatten, rfl, hc, hb, fun j v hj => ?_, h1⟩
  have := h2 0 (fun i h' => by simpa using (hv i (by rw [← hl]; exact h') h').2) j v hj
  simpa using this
structure ClLay (P : Program) (tC tL tT tTs tI tb : TypeId) : Prop where
  lit : LiLay P tL tT tTs tI tb
  sl : P.underlying tC = some (.slice tL)
  bL : P.bytesOf tL = 72
theorem openCl {tC tL tT tTs tI tb : TypeId} (ly : ClLay P tC tL tT tTs tI tb) {fuel : Nat} {cs : List Value} {x : DataW H × List MemPlace} (h1 : DataW.trod enc P W 0 spare held fuel tC cs = some x) (hw : (x.1.weights P tC).all (· ≤ reachBytes) = true) : ∃ (a : Option Addr) (k : Nat) (c : List Li), cs = [.slice a c.length k] ∧ RepC (hImm W) (.slice a c.length k) c := by
  rcases DataW.trod_slice ly.sl h1 with ⟨hcs, _⟩ | ⟨a, len, cap, elems, rest, n', rfl, hcs, hd, _, hl, hm, hlen, hel, hsp, _⟩
  · exact ⟨none, 0, [], by simpa using hcs, RepE.nil⟩
  · obtain ⟨x1, x2⟩ := x
    obtain ⟨rfl, _⟩ := Prod.mk.inj hd
    simp only [DataW.weights, ly.sl, ly.bL, List.all_cons, List.all_append, Bool.and_eq_true, decide_eq_true_eq] at hw
    obtain ⟨hwl, hwe, _⟩ := hw
    have hwe' := weights_all hwe
    have hrb : reachBytes = 140737488351232 := rfl
    simp only [List.length_map, hlen] at hwl
    have hall : ∀ i, i < len → ∃ y : Li, ∃ vs, LitE.R (hImm W) y vs ∧ At (hImm W) (some a) (i * 5) vs := by
      intro i hi
      have hy := hel i hi
      rw [ly.lit.cL] at hy
      have hie : elems[i]? = some elems[i] := List.getElem?_eq_getElem (by omega)
      rw [hie, Option.bind_eq_some_iff] at hy
      obtain ⟨cs', hcs', htr⟩ := hy
      obtain ⟨_, hca⟩ := cells_allC hcs'
      obtain ⟨y, la, ra, lc, rc, rfl, h1, h2⟩ := openLi ly.lit htr (hwe' _ (List.mem_map.2 ⟨_, List.getElem_mem (by omega), rfl⟩))
      refine ⟨y, _, ⟨la, lc, ra, rc, rfl, h1, h2⟩, fun j v hj => ?_⟩
      have := hca j v hj
      rw [add_add] at this
      exact this
    obtain ⟨c, hcl, hc2⟩ := pick_list hall
    subst hcl
    exact ⟨some a, cap, c, by simpa using hcs, repE_of c hl (by omega) hc2⟩
theorem openCv {tC tL tT tTs tI tb : TypeId} (ly : ClLay P tC tL tT tTs tI tb) {v : Value} {d : DataW H} {ps : List MemPlace} (h : DataW.Trod enc P W 0 spare held tC v d ps) (hw : (d.weights P tC).all (· ≤ reachBytes) = true) (hv : ∃ a l c, v = .slice a l c) : ∃ c, RepC (hImm W) v c := by
  obtain ⟨a, l, c, rfl⟩ := hv
  obtain ⟨fuel, h1⟩ := h
  obtain ⟨a', k, cl, hcs, hr⟩ := openCl ly h1 hw
  simp [Value.cells] at hcs
  obtain ⟨rfl, rfl, rfl⟩ := hcs
  exact ⟨cl, hr⟩
end Go.Proofs.Ytdbadicpbmndbaa
/- What a row's reading of a signature, and of a name, says of the heap; plain facts, no condition. -/
set_option linter.unusedVariables false
set_option linter.unusedSimpArgs false
namespace Go.Proofs.Ytdbadicpbmndbaa
open Go Lg Go.ChangeShapes Go.WideShapes Go.ChangeAt Go.RowKit
variable {H : Type} {enc : TypeId × Value → H} {P : Program} {W : World} {spare : Nat → Bool} {held : Bool}
theorem cells_all {a : Addr} {n : Nat} {cs : List Value} (h : W.cells? 0 a n = some cs) : cs.length = n ∧ ∀ j v, cs[j]? = some v → W.cell? (a.add j) = some v := by
  simp only [World.cells?, Nat.zero_le, if_true] at h
  have key : ∀ (l : List Nat) (cs : List Value), l.mapM (fun i => W.cell? (a.add i)) = some cs → cs.length = l.length ∧ ∀ (j : Nat) (v : Value), cs[j]? = some v → ∃ i : Nat, l[j]? = some i ∧ W.cell? (a.add i) = some v := by
    intro l
    induction l with
    | nil => intro cs h; simp at h; subst h; exact ⟨rfl, fun j v h => by simp at h⟩
    | cons i l ih =>
      intro cs h
      simp only [List.mapM_cons, Option.bind_eq_bind, Option.bind_eq_some_iff, Option.pure_def, Option.some.injEq] at h
      obtain ⟨u, hu, r, hr, rfl⟩ := h
      obtain ⟨h1, h2⟩ := ih r hr
      refine ⟨by simp [h1], fun j v hj => ?_⟩
      cases j with
      | zero => simp at hj; subst hj; exact ⟨i, rfl, hu⟩
      | succ j => simpa using h2 j v (by simpa using hj)
  obtain ⟨h1, h2⟩ := key _ _ h
  refine ⟨by simpa using h1, fun j v hj => ?_⟩
  obtain ⟨i, hi, hc⟩ := h2 j v hj
  have hlt : j < n := by have := (List.getElem?_eq_some_iff.1 hi).1; simpa using this
  rw [List.getElem?_range hlt] at hi
  cases hi
  exact hc

structure SyLay (P : Program) (tS tG ts ti tb : TypeId) : Prop where
  ty : SyTy P tG ts ti tb
  sl : P.underlying tS = some (.slice tG)
  cG : P.cellsOf tG = 4
  cs : P.cellsOf ts = 1
  ci : P.cellsOf ti = 1
  cb : P.cellsOf tb = 1
  bG : P.bytesOf tG = 40
theorem openSy {tS tG ts ti tb : TypeId} (ly : SyLay P tS tG ts ti tb) {fuel : Nat} {cs : List Value} {x : DataW H × List MemPlace} (h : DataW.trod enc P W 0 spare held fuel tG cs = some x) : ∃ s : Sy, cs = s.cs ∧ s.ok := by
  obtain ⟨f0, f1, f2, f3, hs, ⟨e1, e2, e3⟩, ⟨g1, g2, g3⟩, ⟨h1, h2, h3⟩, k1, k2, k3⟩ := ly.ty.str
  obtain ⟨xs, n, rfl, hx, hcl, hxl, hxs⟩ := DataW.trod_struct hs h
  rw [ly.cG] at hcl
  obtain ⟨a, b, c, d, rfl⟩ : ∃ a b c d, cs = [a, b, c, d] := by
    rcases cs with _ | ⟨a, _ | ⟨b, _ | ⟨c, _ | ⟨d, _ | ⟨_, _⟩⟩⟩⟩⟩ <;> simp at hcl
    exact ⟨a, b, c, d, rfl⟩
  have q0 := hxs 0 f0 rfl
  have q1 := hxs 1 f1 rfl
  have q2 := hxs 2 f2 rfl
  have q3 := hxs 3 f3 rfl
  have hx4 : xs.length = 4 := hxl
  rw [List.getElem?_eq_getElem (by omega), e1, e2, ly.cs] at q0
  rw [List.getElem?_eq_getElem (by omega), g1, g2, ly.ci] at q1
  rw [List.getElem?_eq_getElem (by omega), h1, h2, ly.ci] at q2
  rw [List.getElem?_eq_getElem (by omega), k1, k2, ly.cb] at q3
  obtain ⟨s0, z0, _, w0⟩ := DataW.trod_string ly.ty.us q0
  obtain ⟨s1, z1, _, w1⟩ := DataW.trod_int ly.ty.ui q1
  obtain ⟨s2, z2, _, w2⟩ := DataW.trod_int ly.ty.ui q2
  obtain ⟨s3, z3, _⟩ := DataW.trod_bool ly.ty.ub q3
  simp at z0 z1 z2 z3
  subst z0; subst z1; subst z2; subst z3
  exact ⟨⟨s0, s1, s2, s3⟩, rfl, wf_in w1, wf_in w2, w0⟩
theorem openGv {tS tG ts ti tb : TypeId} (ly : SyLay P tS tG ts ti tb) {v : Value} {d : DataW H} {ps : List MemPlace} (h : DataW.Trod enc P W 0 spare held tS v d ps) (hw : (d.weights P tS).all (· ≤ reachBytes) = true) (hv : ∃ a len cap, v = .slice a len cap) : ∃ gs, RepG (hImm W) v gs := by
  obtain ⟨a0, len0, cap0, rfl⟩ := hv
  obtain ⟨fuel, h1⟩ := h
  rcases DataW.trod_slice ly.sl h1 with ⟨hcs, _⟩ | ⟨a, len, cap, elems, rest, n', rfl, hcs, hd, _, hl, hm, hlen, hel, hsp, _⟩
  · simp [Value.cells] at hcs
    obtain ⟨rfl, rfl, rfl⟩ := hcs
    exact ⟨[], none, 0, [], Nat.le_refl _, by simp, fun i hi => by simp at hi, fun s hs => by cases hs⟩
  · simp [Value.cells] at hcs
    obtain ⟨rfl, rfl, rfl⟩ := hcs
    obtain ⟨rfl, _⟩ := Prod.mk.inj hd
    simp only [DataW.weights, ly.sl, ly.bG, List.all_cons, List.all_append, Bool.and_eq_true, decide_eq_true_eq] at hw
    obtain ⟨hwl, hwe, _⟩ := hw
    have hrb : reachBytes = 140737488351232 := rfl
    simp only [List.length_map, hlen] at hwl
    have hall : ∀ i, i < len0 → ∃ s : Sy, At (hImm W) (some a) (i * 4) s.cs ∧ s.ok := by
      intro i hi
      have hy := hel i hi
      rw [ly.cG] at hy
      have hie : elems[i]? = some elems[i] := List.getElem?_eq_getElem (by omega)
      rw [hie, Option.bind_eq_some_iff] at hy
      obtain ⟨cs, hcs, htr⟩ := hy
      obtain ⟨_, hca⟩ := cells_all hcs
      obtain ⟨s, rfl, hok⟩ := openSy ly htr
      refine ⟨s, fun j v hj => ?_, hok⟩
      have := hca j v hj
      rw [add_add] at this
      exact this
    obtain ⟨gs, hgl, hg2⟩ := pick_list hall
    subst hgl
    exact ⟨gs, some a, cap0, gs, hl, by omega, fun i hi => (hg2 i hi).1, fun s hs => by obtain ⟨i, hi, rfl⟩ := List.getElem_of_mem hs; exact (hg2 i hi).2⟩
end Go.Proofs.Ytdbadicpbmndbaa
