/- Own texts, one behind the other: rules of a small program logic, walks through the program's functions, plain facts. No condition. -/
import Derived.Test.YtdbadicpbmndbaaZ5
import Derived.WalkKit
import Derived.ProofKit
import Derived.OpenShut
import Derived.ShutString
import Derived.ChangeOld
import Derived.ChangeSlices
import Derived.Below
import Derived.Carry
import Derived.SizedLaws
/- Rows of things of which some are greater: what the rows' order is. Plain facts; no condition. -/
set_option linter.unusedVariables false
set_option linter.unusedSectionVars false
set_option linter.unusedSimpArgs false
namespace Go.Proofs.Ytdbadicpbmndbaa
section
variable {K : Type} [DecidableEq K]
def rsX : List K → List K → List K
  | [], _ => []
  | t :: r, left => if t ∈ left then rsX r (left.erase t) else t :: rsX r left
theorem rsX_count (x : K) : ∀ (l m : List K), (rsX l m).count x = l.count x - m.count x
  | [], m => by simp [rsX]
  | t :: r, m => by
    simp only [rsX]
    by_cases h : t ∈ m
    · rw [if_pos h, rsX_count x r, List.count_cons, List.count_erase]
      have := List.count_pos_iff.2 h
      by_cases e : t = x
      · subst e; simp; omega
      · simp [e]
    · rw [if_neg h, List.count_cons, rsX_count x r, List.count_cons]
      by_cases e : t = x
      · subst e
        have := List.count_eq_zero.2 h
        simp [this]
      · simp [e]
theorem rsX_in {l m : List K} {x : K} : x ∈ rsX l m ↔ m.count x < l.count x := by
  rw [← List.count_pos_iff, rsX_count]; omega
theorem rsX_nil {l m : List K} : rsX l m = [] ↔ ∀ x, l.count x ≤ m.count x := by
  constructor
  · intro h x
    have : x ∉ rsX l m := by rw [h]; simp
    rw [rsX_in] at this; omega
  · intro h
    cases hq : rsX l m with
    | nil => rfl
    | cons y r =>
      have : y ∈ rsX l m := by rw [hq]; simp
      rw [rsX_in] at this
      have := h y; omega
variable (g : K → K → Bool)
def overX (a b : List K) : Bool := decide (0 < a.length) && b.all fun u => a.any fun t => g t u
def mulX (a b : List K) : Int :=
  if (rsX a b).length + (rsX b a).length = 0 then 0 else if overX g (rsX a b) (rsX b a) = true then 1 else if overX g (rsX b a) (rsX a b) = true then -1 else 2
variable {g}
theorem overX_perm {a b a' b' : List K} (h : a.Perm a') (k : b.Perm b') : overX g a b = overX g a' b' := by
  unfold overX
  rw [h.length_eq]
  congr 1
  rw [Bool.eq_iff_iff, List.all_eq_true, List.all_eq_true]
  constructor
  · intro q u hu
    have := q u (k.mem_iff.2 hu)
    rw [List.any_eq_true] at this ⊢
    obtain ⟨t, ht, he⟩ := this
    exact ⟨t, h.mem_iff.1 ht, he⟩
  · intro q u hu
    have := q u (k.mem_iff.1 hu)
    rw [List.any_eq_true] at this ⊢
    obtain ⟨t, ht, he⟩ := this
    exact ⟨t, h.mem_iff.2 ht, he⟩
theorem rsX_perm {l m l' m' : List K} (h : ∀ x, l.count x - m.count x = l'.count x - m'.count x) : (rsX l m).Perm (rsX l' m') := by
  rw [List.perm_iff_count]; intro x; rw [rsX_count, rsX_count, h]
theorem mulX_perm {a b a' b' : List K} (h : a.Perm a') (k : b.Perm b') : mulX g a b = mulX g a' b' := by
  have h1 : (rsX a b).Perm (rsX a' b') := rsX_perm fun x => by rw [h.count_eq, k.count_eq]
  have h2 : (rsX b a).Perm (rsX b' a') := rsX_perm fun x => by rw [h.count_eq, k.count_eq]
  unfold mulX
  rw [h1.length_eq, h2.length_eq, overX_perm h1 h2, overX_perm h2 h1]
theorem mulX_zero {a b : List K} : mulX g a b = 0 ↔ a.Perm b := by
  have hp : a.Perm b ↔ (rsX a b).length + (rsX b a).length = 0 := by
    rw [List.perm_iff_count]
    constructor
    · intro h
      have e1 := rsX_nil.2 fun x => Nat.le_of_eq (h x)
      have e2 := rsX_nil.2 fun x => Nat.le_of_eq (h x).symm
      rw [e1, e2]; rfl
    · intro h x
      have e1 := rsX_nil.1 (List.eq_nil_of_length_eq_zero (show (rsX a b).length = 0 by omega)) x
      have e2 := rsX_nil.1 (List.eq_nil_of_length_eq_zero (show (rsX b a).length = 0 by omega)) x
      omega
  rw [hp]
  unfold mulX
  by_cases h : (rsX a b).length + (rsX b a).length = 0
  · rw [if_pos h]; simp [h]
  · rw [if_neg h]
    constructor
    · intro q; split at q <;> (try split at q) <;> simp at q
    · intro q; exact absurd q h
theorem mulX_one {a b : List K} : mulX g a b = 1 ↔ overX g (rsX a b) (rsX b a) = true := by
  unfold mulX
  by_cases h : (rsX a b).length + (rsX b a).length = 0
  · rw [if_pos h]
    have : rsX a b = [] := List.eq_nil_of_length_eq_zero (by omega)
    rw [this]; simp [overX]
  · rw [if_neg h]
    by_cases h2 : overX g (rsX a b) (rsX b a) = true
    · rw [if_pos h2]; simp [h2]
    · rw [if_neg h2]
      simp only [h2, iff_false]
      split <;> simp
theorem overX_iff {a b : List K} : overX g (rsX a b) (rsX b a) = true ↔ (∃ x, b.count x < a.count x) ∧ ∀ u, a.count u < b.count u → ∃ t, b.count t < a.count t ∧ g t u = true := by
  unfold overX
  rw [Bool.and_eq_true, decide_eq_true_eq, List.all_eq_true]
  constructor
  · rintro ⟨h1, h2⟩
    refine ⟨?_, fun u hu => ?_⟩
    · obtain ⟨x, hx⟩ := List.exists_mem_of_length_pos h1
      exact ⟨x, rsX_in.1 hx⟩
    · have := h2 u (rsX_in.2 hu)
      rw [List.any_eq_true] at this
      obtain ⟨t, ht, he⟩ := this
      exact ⟨t, rsX_in.1 ht, he⟩
  · rintro ⟨⟨x, hx⟩, h2⟩
    refine ⟨List.length_pos_of_mem (rsX_in.2 hx), fun u hu => ?_⟩
    obtain ⟨t, ht, he⟩ := h2 u (rsX_in.1 hu)
    exact List.any_eq_true.2 ⟨t, rsX_in.2 ht, he⟩
theorem mulX_vals (a b : List K) : mulX g a b = 0 ∨ mulX g a b = 1 ∨ mulX g a b = -1 ∨ mulX g a b = 2 := by
  unfold mulX; split; exact .inl rfl; split; exact .inr (.inl rfl); split; exact .inr (.inr (.inl rfl)); exact .inr (.inr (.inr rfl))
/-- what is greater is so both ways -/
structure OrdX (g : K → K → Bool) (Ok : K → Prop) : Prop where
  irr : ∀ x, g x x = false
  tr : ∀ x y z, Ok x → Ok y → Ok z → g x y = true → g y z = true → g x z = true
theorem countPX_lt {α : Type} {p q : α → Bool} : ∀ {l : List α}, (∀ x ∈ l, p x = true → q x = true) → (∃ x ∈ l, q x = true ∧ p x = false) → l.countP p < l.countP q
  | [], _, h => by obtain ⟨x, hx, _⟩ := h; cases hx
  | y :: r, hpq, h => by
    have hle : r.countP p ≤ r.countP q := List.countP_mono_left fun x hx => hpq x (List.mem_cons_of_mem _ hx)
    have hy := hpq y (List.mem_cons_self ..)
    rw [List.countP_cons, List.countP_cons]
    obtain ⟨x, hx, h1, h2⟩ := h
    rcases List.mem_cons.1 hx with rfl | hx
    · rw [h1, h2]; simp; omega
    · have ih := countPX_lt (l := r) (fun x hx => hpq x (List.mem_cons_of_mem _ hx)) ⟨x, hx, h1, h2⟩
      by_cases e : p y = true
      · rw [e, hy e]; simp; omega
      · simp only [e, Bool.false_eq_true, if_false]; omega
theorem mulX_trans {Ok : K → Prop} (ho : OrdX g Ok) {a b c : List K} (ha : ∀ t ∈ a, Ok t) (hb : ∀ t ∈ b, Ok t) (hc : ∀ t ∈ c, Ok t) (h1 : mulX g a b = 1) (h2 : mulX g b c = 1) : mulX g a c = 1 := by
  rw [mulX_one, overX_iff] at h1 h2 ⊢
  obtain ⟨⟨x1, hx1⟩, h1⟩ := h1
  obtain ⟨⟨x2, hx2⟩, h2⟩ := h2
  have inA : ∀ {x : K} {n : Nat}, n < a.count x → Ok x := fun h => ha _ (List.count_pos_iff.1 (by omega))
  have inB : ∀ {x : K} {n : Nat}, n < b.count x → Ok x := fun h => hb _ (List.count_pos_iff.1 (by omega))
  have inC : ∀ {x : K} {n : Nat}, n < c.count x → Ok x := fun h => hc _ (List.count_pos_iff.1 (by omega))
  have tr := ho.tr
  have key : ∀ (n : Nat) (w : K), (b ++ c).countP (fun t => g t w) ≤ n → (a.count w < b.count w ∨ b.count w < c.count w) → ∃ x, g x w = true ∧ c.count x < a.count x := by
    intro n
    induction n with
    | zero =>
      intro w hn hw
      have hz : ∀ t ∈ b ++ c, ¬ g t w = true := by
        have := List.countP_eq_zero.1 (Nat.le_zero.1 hn)
        intro t ht; simpa using this t ht
      rcases hw with hw | hw
      · obtain ⟨x, hx, hs⟩ := h1 w hw
        refine ⟨x, hs, ?_⟩
        have : c.count x = 0 := List.count_eq_zero.2 fun hm => hz x (List.mem_append_right _ hm) hs
        omega
      · obtain ⟨x, hx, hs⟩ := h2 w hw
        exact absurd hs (hz x (List.mem_append_left _ (List.count_pos_iff.1 (by omega))))
    | succ n ih =>
      intro w hn hw
      have step : ∀ x, g x w = true → Ok x → Ok w → (a.count x < b.count x ∨ b.count x < c.count x) → ∃ y, g y w = true ∧ c.count y < a.count y := by
        intro x hs hx hw2 hS
        have hxm : x ∈ b ++ c := by
          rcases hS with h | h
          · exact List.mem_append_left _ (List.count_pos_iff.1 (by omega))
          · exact List.mem_append_right _ (List.count_pos_iff.1 (by omega))
        have hall : ∀ t ∈ b ++ c, Ok t := fun t ht => by rcases List.mem_append.1 ht with h | h; exact hb t h; exact hc t h
        have hlt : (b ++ c).countP (fun t => g t x) < (b ++ c).countP (fun t => g t w) :=
          countPX_lt (fun t ht h => tr _ _ _ (hall t ht) hx hw2 h hs) ⟨x, hxm, hs, ho.irr x⟩
        obtain ⟨y, hy, hya⟩ := ih x (by omega) hS
        exact ⟨y, tr _ _ _ (inA hya) hx hw2 hy hs, hya⟩
      rcases hw with hw | hw
      · obtain ⟨x, hx, hs⟩ := h1 w hw
        by_cases hS : a.count x < b.count x ∨ b.count x < c.count x
        · exact step x hs (inA hx) (inB hw) hS
        · exact ⟨x, hs, by omega⟩
      · obtain ⟨x, hx, hs⟩ := h2 w hw
        by_cases hS : a.count x < b.count x ∨ b.count x < c.count x
        · exact step x hs (inB hx) (inC hw) hS
        · exact ⟨x, hs, by omega⟩
  refine ⟨?_, fun u hu => ?_⟩
  · by_cases hS : ∃ w, a.count w < b.count w ∨ b.count w < c.count w
    · obtain ⟨w, hw⟩ := hS
      obtain ⟨x, _, hx⟩ := key _ w (Nat.le_refl _) hw
      exact ⟨x, hx⟩
    · have hno : ∀ w, ¬ (a.count w < b.count w ∨ b.count w < c.count w) := fun w h => hS ⟨w, h⟩
      have := hno x1
      exact ⟨x1, by omega⟩
  · obtain ⟨x, hs, hx⟩ := key _ u (Nat.le_refl _) (by omega)
    exact ⟨x, hx, hs⟩
theorem mulX_self (a : List K) : mulX g a a = 0 := mulX_zero.2 (List.Perm.refl _)
theorem mulX_anti {Ok : K → Prop} (ho : OrdX g Ok) {a b : List K} (ha : ∀ t ∈ a, Ok t) (hb : ∀ t ∈ b, Ok t) (h1 : mulX g a b = 1) : mulX g b a = -1 := by
  have h2 : mulX g b a ≠ 1 := fun h => by
    have := mulX_trans ho ha hb ha h1 h
    rw [mulX_self] at this; cases this
  have h3 : mulX g b a ≠ 0 := fun h => by
    have := mulX_zero.1 h
    rw [mulX_zero.2 this.symm] at h1; cases h1
  rw [mulX_one] at h1
  unfold mulX at h2 h3 ⊢
  by_cases e : (rsX b a).length + (rsX a b).length = 0
  · rw [if_pos e] at h3; exact absurd rfl h3
  · rw [if_neg e] at h2 ⊢
    by_cases e2 : overX g (rsX b a) (rsX a b) = true
    · rw [if_pos e2] at h2; exact absurd rfl h2
    · rw [if_neg e2, if_pos h1]
theorem mulX_less {a b : List K} (h : mulX g a b = -1) : mulX g b a = 1 := by
  rw [mulX_one]
  unfold mulX at h
  split at h
  · cases h
  · split at h
    · cases h
    · split at h
      · assumption
      · cases h
/-- one is the greatest -/
theorem topX {Ok : K → Prop} (ho : OrdX g Ok) : ∀ (l : List K), 0 < l.length → (∀ x ∈ l, Ok x) → ∃ m ∈ l, ∀ x ∈ l, g x m = false
  | [x], _, _ => ⟨x, by simp, fun y hy => by simp at hy; subst hy; exact ho.irr _⟩
  | x :: y :: r, _, hk => by
    obtain ⟨m, hm, ht⟩ := topX ho (y :: r) (by simp) (fun z hz => hk z (List.mem_cons_of_mem _ hz))
    by_cases h : g x m = true
    · refine ⟨x, List.mem_cons_self .., fun z hz => ?_⟩
      rcases List.mem_cons.1 hz with rfl | hz
      · exact ho.irr _
      · cases q : g z x
        · rfl
        · have := ho.tr z x m (hk z (List.mem_cons_of_mem _ hz)) (hk x (List.mem_cons_self ..)) (hk m (List.mem_cons_of_mem _ hm)) q h
          rw [ht z hz] at this; cases this
    · refine ⟨m, List.mem_cons_of_mem _ hm, fun z hz => ?_⟩
      rcases List.mem_cons.1 hz with rfl | hz
      · simpa using h
      · exact ht z hz
/-- of any two things one is greater: so of any two rows -/
theorem mulX_total {Ok : K → Prop} (ho : OrdX g Ok) (ht : ∀ x y, Ok x → Ok y → x ≠ y → g x y = true ∨ g y x = true) {a b : List K} (ha : ∀ t ∈ a, Ok t) (hb : ∀ t ∈ b, Ok t) : mulX g a b ≠ 2 := by
  intro h2
  have hne : ¬ ((rsX a b).length + (rsX b a).length = 0) := fun e => by unfold mulX at h2; rw [if_pos e] at h2; cases h2
  have hka : ∀ x ∈ rsX a b, Ok x := fun x hx => ha x (List.count_pos_iff.1 (by have := rsX_in.1 hx; omega))
  have hkb : ∀ x ∈ rsX b a, Ok x := fun x hx => hb x (List.count_pos_iff.1 (by have := rsX_in.1 hx; omega))
  have hk : ∀ x ∈ rsX a b ++ rsX b a, Ok x := fun x hx => by rcases List.mem_append.1 hx with h | h; exact hka x h; exact hkb x h
  obtain ⟨m, hm, hmt⟩ := topX ho (rsX a b ++ rsX b a) (by rw [List.length_append]; omega) hk
  have hdis : ∀ x ∈ rsX a b, x ∉ rsX b a := fun x h1 h2 => by rw [rsX_in] at h1 h2; omega
  have hgt : ∀ x ∈ rsX a b ++ rsX b a, x ≠ m → g m x = true := fun x hx hxm => by
    rcases ht m x (hk m hm) (hk x hx) (fun e => hxm e.symm) with h | h
    · exact h
    · rw [hmt x hx] at h; cases h
  have hmul : overX g (rsX a b) (rsX b a) = true ∨ overX g (rsX b a) (rsX a b) = true := by
    rcases List.mem_append.1 hm with h | h
    · left
      unfold overX
      rw [Bool.and_eq_true, decide_eq_true_eq, List.all_eq_true]
      exact ⟨List.length_pos_of_mem h, fun u hu => List.any_eq_true.2 ⟨m, h, hgt u (List.mem_append_right _ hu) (fun e => hdis m h (e ▸ hu))⟩⟩
    · right
      unfold overX
      rw [Bool.and_eq_true, decide_eq_true_eq, List.all_eq_true]
      exact ⟨List.length_pos_of_mem h, fun u hu => List.any_eq_true.2 ⟨m, h, hgt u (List.mem_append_left _ hu) (fun e => hdis m (e ▸ hu) h)⟩⟩
  unfold mulX at h2
  rw [if_neg hne] at h2
  rcases hmul with h | h
  · rw [if_pos h] at h2; cases h2
  · split at h2
    · cases h2
    · cases h2
/-- one more is greater -/
theorem mulX_more (a : List K) (x : K) : mulX g (a ++ [x]) a = 1 := by
  rw [mulX_one, overX_iff]
  refine ⟨⟨x, by simp⟩, fun u hu => ?_⟩
  rw [List.count_append] at hu; omega
/-- what goes over to greater things, of each greater ones, goes over to greater rows -/
theorem mulX_map {L : Type} [DecidableEq L] {g' : L → L → Bool} {f : K → L} {a b : List K} (hg : ∀ x ∈ a, ∀ y ∈ b, g x y = true → g' (f x) (f y) = true) {Ok : L → Prop} (ho : OrdX g' Ok) (ha : ∀ x ∈ a, Ok (f x)) (hb : ∀ x ∈ b, Ok (f x)) (h : mulX g a b = 1) : mulX g' (a.map f) (b.map f) = 1 := by
  rw [mulX_one] at h
  have hx : ∀ x ∈ rsX a b, x ∈ a := fun x hx => List.count_pos_iff.1 (by have := rsX_in.1 hx; omega)
  have hy : ∀ y ∈ rsX b a, y ∈ b := fun x hx => List.count_pos_iff.1 (by have := rsX_in.1 hx; omega)
  unfold overX at h
  rw [Bool.and_eq_true, decide_eq_true_eq, List.all_eq_true] at h
  -- both without what they share
  have hpa : ∀ (a b : List K), ∃ s, a.Perm (s ++ rsX a b) ∧ b.Perm (s ++ rsX b a) := fun a b => by
    refine ⟨rsX a (rsX a b), ?_, ?_⟩
    · rw [List.perm_iff_count]; intro x; rw [List.count_append, rsX_count, rsX_count]; omega
    · rw [List.perm_iff_count]; intro x; rw [List.count_append, rsX_count, rsX_count, rsX_count]; omega
  obtain ⟨s, hs1, hs2⟩ := hpa a b
  have e1 := hs1.map f
  have e2 := hs2.map f
  rw [mulX_perm e1 e2, mulX_one, overX_iff]
  rw [List.map_append, List.map_append]
  -- counts: what is shared plays no part
  have hcnt : ∀ z, (s.map f ++ (rsX a b).map f).count z < (s.map f ++ (rsX b a).map f).count z → z ∈ (rsX b a).map f := fun z hz => by
    rw [List.count_append, List.count_append] at hz
    exact List.count_pos_iff.1 (by omega)
  -- a greatest one of the left row is in no way taken away
  have hkl : ∀ z ∈ (rsX a b).map f ++ (rsX b a).map f, Ok z := fun z hz => by
    rcases List.mem_append.1 hz with h | h
    · obtain ⟨x, hx', rfl⟩ := List.mem_map.1 h; exact ha x (hx x hx')
    · obtain ⟨x, hx', rfl⟩ := List.mem_map.1 h; exact hb x (hy x hx')
  have hover : ∀ u ∈ (rsX b a).map f, ∃ t ∈ (rsX a b).map f, g' t u = true := fun u hu => by
    obtain ⟨y, hy', rfl⟩ := List.mem_map.1 hu
    have := h.2 y hy'
    rw [List.any_eq_true] at this
    obtain ⟨x, hx', hxy⟩ := this
    exact ⟨f x, List.mem_map_of_mem hx', hg x (hx x hx') y (hy y hy') hxy⟩
  -- above each one of the right row stands one of the left row that is not taken away
  have key : ∀ (n : Nat) (u : L), ((rsX a b).map f ++ (rsX b a).map f).countP (fun t => g' t u) ≤ n → Ok u → (∃ t ∈ (rsX a b).map f, g' t u = true) → ∃ t, (s.map f ++ (rsX b a).map f).count t < (s.map f ++ (rsX a b).map f).count t ∧ g' t u = true := by
    intro n
    induction n with
    | zero =>
      intro u hn _ ⟨t, ht, hgt⟩
      have := List.countP_eq_zero.1 (Nat.le_zero.1 hn) t (List.mem_append_left _ ht)
      exact absurd hgt this
    | succ n ih =>
      intro u hn hu ⟨t, ht, hgt⟩
      by_cases q : (s.map f ++ (rsX b a).map f).count t < (s.map f ++ (rsX a b).map f).count t
      · exact ⟨t, q, hgt⟩
      · have htb : t ∈ (rsX b a).map f := by
          have h1 := List.count_pos_iff.2 ht
          rw [List.count_append, List.count_append] at q
          exact List.count_pos_iff.1 (by omega)
        have hto := hkl t (List.mem_append_left _ ht)
        have hall := hkl
        have hlt : ((rsX a b).map f ++ (rsX b a).map f).countP (fun z => g' z t) < ((rsX a b).map f ++ (rsX b a).map f).countP (fun z => g' z u) :=
          countPX_lt (fun z hz hzt => ho.tr _ _ _ (hall z hz) hto hu hzt hgt) ⟨t, List.mem_append_left _ ht, hgt, ho.irr t⟩
        obtain ⟨w, hw1, hw2⟩ := ih t (by omega) hto (hover t htb)
        have hwo : Ok w := hkl w (List.mem_append_left _ (by
          rw [List.count_append, List.count_append] at hw1
          exact List.count_pos_iff.1 (by omega)))
        exact ⟨w, hw1, ho.tr _ _ _ hwo hto hu hw2 hgt⟩
  refine ⟨?_, fun u hu => ?_⟩
  · obtain ⟨x, hx'⟩ := List.exists_mem_of_length_pos h.1
    obtain ⟨m, hm, hmt⟩ := topX ho ((rsX a b).map f ++ (rsX b a).map f) (by rw [List.length_append, List.length_map]; omega) hkl
    have hmb : m ∉ (rsX b a).map f := fun hmb => by
      obtain ⟨t, ht, hgt⟩ := hover m hmb
      rw [hmt t (List.mem_append_left _ ht)] at hgt; cases hgt
    have hma : m ∈ (rsX a b).map f := by rcases List.mem_append.1 hm with h | h; exact h; exact absurd h hmb
    refine ⟨m, ?_⟩
    rw [List.count_append, List.count_append, List.count_eq_zero.2 hmb]
    have := List.count_pos_iff.2 hma; omega
  · have hub := hcnt u hu
    exact key _ u (Nat.le_refl _) (hkl u (List.mem_append_right _ hub)) (hover u hub)
end
end Go.Proofs.Ytdbadicpbmndbaa
/- Rows of terms: greater than greater is greater; rows of literals. No condition. -/
set_option linter.unusedVariables false
set_option linter.unusedSimpArgs false
set_option linter.unnecessarySimpa false
namespace Go.Proofs.Ytdbadicpbmndbaa
open Go Lg

theorem rsL_in {l m : List T} {x : T} : x ∈ rsL l m ↔ m.count x < l.count x := by
  rw [← List.count_pos_iff, rsL_count]; omega
theorem rsL_nil {l m : List T} : rsL l m = [] ↔ ∀ x, l.count x ≤ m.count x := by
  constructor
  · intro h x
    have : x ∉ rsL l m := by rw [h]; simp
    rw [rsL_in] at this; omega
  · intro h
    cases hq : rsL l m with
    | nil => rfl
    | cons y r =>
      have : y ∈ rsL l m := by rw [hq]; simp
      rw [rsL_in] at this
      have := h y; omega
theorem mulG_zero {gs : List Sy} {a b : List T} : mulG gs a b = 0 ↔ a.Perm b := by
  have hp : a.Perm b ↔ (rsL a b).length + (rsL b a).length = 0 := by
    rw [List.perm_iff_count]
    constructor
    · intro h
      have e1 := rsL_nil.2 fun x => Nat.le_of_eq (h x)
      have e2 := rsL_nil.2 fun x => Nat.le_of_eq (h x).symm
      rw [e1, e2]; rfl
    · intro h x
      have e1 := rsL_nil.1 (List.eq_nil_of_length_eq_zero (show (rsL a b).length = 0 by omega)) x
      have e2 := rsL_nil.1 (List.eq_nil_of_length_eq_zero (show (rsL b a).length = 0 by omega)) x
      omega
  rw [hp]
  unfold mulG
  by_cases h : (rsL a b).length + (rsL b a).length = 0
  · rw [if_pos h]; simp [h]
  · rw [if_neg h]
    constructor
    · intro q; split at q <;> (try split at q) <;> simp at q
    · intro q; exact absurd q h
theorem mulG_one_iff {gs : List Sy} {a b : List T} : mulG gs a b = 1 ↔ overL gs (rsL a b) (rsL b a) = true := by
  unfold mulG
  by_cases h : (rsL a b).length + (rsL b a).length = 0
  · rw [if_pos h]
    have : rsL a b = [] := List.eq_nil_of_length_eq_zero (by omega)
    rw [this]; simp [overL]
  · rw [if_neg h]
    by_cases h2 : overL gs (rsL a b) (rsL b a) = true
    · rw [if_pos h2]; simp [h2]
    · rw [if_neg h2]
      simp only [h2, iff_false]
      split <;> simp
theorem overL_iff {gs : List Sy} {a b : List T} : overL gs (rsL a b) (rsL b a) = true ↔ (∃ x, b.count x < a.count x) ∧ ∀ u, a.count u < b.count u → ∃ t, b.count t < a.count t ∧ stT gs t u = 1 := by
  unfold overL
  rw [Bool.and_eq_true, decide_eq_true_eq, List.all_eq_true]
  constructor
  · rintro ⟨h1, h2⟩
    refine ⟨?_, fun u hu => ?_⟩
    · obtain ⟨x, hx⟩ := List.exists_mem_of_length_pos h1
      exact ⟨x, rsL_in.1 hx⟩
    · have := h2 u (rsL_in.2 hu)
      rw [List.any_eq_true] at this
      obtain ⟨t, ht, he⟩ := this
      exact ⟨t, rsL_in.1 ht, by simpa using he⟩
  · rintro ⟨⟨x, hx⟩, h2⟩
    refine ⟨List.length_pos_of_mem (rsL_in.2 hx), fun u hu => ?_⟩
    obtain ⟨t, ht, he⟩ := h2 u (rsL_in.1 hu)
    exact List.any_eq_true.2 ⟨t, rsL_in.2 ht, by simpa using he⟩
theorem countP_lt {α : Type} {p q : α → Bool} : ∀ {l : List α}, (∀ x ∈ l, p x = true → q x = true) → (∃ x ∈ l, q x = true ∧ p x = false) → l.countP p < l.countP q
  | [], _, h => by obtain ⟨x, hx, _⟩ := h; cases hx
  | y :: r, hpq, h => by
    have hle : r.countP p ≤ r.countP q := List.countP_mono_left fun x hx => hpq x (List.mem_cons_of_mem _ hx)
    have hy := hpq y (List.mem_cons_self ..)
    rw [List.countP_cons, List.countP_cons]
    obtain ⟨x, hx, h1, h2⟩ := h
    rcases List.mem_cons.1 hx with rfl | hx
    · rw [h1, h2]; simp; omega
    · have ih := countP_lt (l := r) (fun x hx => hpq x (List.mem_cons_of_mem _ hx)) ⟨x, hx, h1, h2⟩
      by_cases e : p y = true
      · rw [e, hy e]; simp; omega
      · simp only [e, Bool.false_eq_true, if_false]; omega
theorem mulG_trans {gs : List Sy} {a b c : List T} (ha : ∀ t ∈ a, OkG gs t) (hb : ∀ t ∈ b, OkG gs t) (hc : ∀ t ∈ c, OkG gs t) (h1 : mulG gs a b = 1) (h2 : mulG gs b c = 1) : mulG gs a c = 1 := by
  rw [mulG_one_iff, overL_iff] at h1 h2 ⊢
  obtain ⟨⟨x1, hx1⟩, h1⟩ := h1
  obtain ⟨⟨x2, hx2⟩, h2⟩ := h2
  have inA : ∀ {x : T} {n : Nat}, n < a.count x → OkG gs x := fun h => ha _ (List.count_pos_iff.1 (by omega))
  have inB : ∀ {x : T} {n : Nat}, n < b.count x → OkG gs x := fun h => hb _ (List.count_pos_iff.1 (by omega))
  have inC : ∀ {x : T} {n : Nat}, n < c.count x → OkG gs x := fun h => hc _ (List.count_pos_iff.1 (by omega))
  have tr : ∀ {x y z : T}, OkG gs x → OkG gs y → OkG gs z → stT gs x y = 1 → stT gs y z = 1 → stT gs x z = 1 := fun hx hy hz p q => stT_trans _ _ _ _ (Nat.le_refl _) hx hy hz p q
  have key : ∀ (n : Nat) (w : T), (b ++ c).countP (fun t => decide (stT gs t w = 1)) ≤ n → (a.count w < b.count w ∨ b.count w < c.count w) → ∃ x, stT gs x w = 1 ∧ c.count x < a.count x := by
    intro n
    induction n with
    | zero =>
      intro w hn hw
      have hz : ∀ t ∈ b ++ c, ¬ stT gs t w = 1 := by
        have := List.countP_eq_zero.1 (Nat.le_zero.1 hn)
        intro t ht; simpa using this t ht
      rcases hw with hw | hw
      · obtain ⟨x, hx, hs⟩ := h1 w hw
        refine ⟨x, hs, ?_⟩
        have : c.count x = 0 := List.count_eq_zero.2 fun hm => hz x (List.mem_append_right _ hm) hs
        omega
      · obtain ⟨x, hx, hs⟩ := h2 w hw
        exact absurd hs (hz x (List.mem_append_left _ (List.count_pos_iff.1 (by omega))))
    | succ n ih =>
      intro w hn hw
      have step : ∀ x, stT gs x w = 1 → OkG gs x → OkG gs w → (a.count x < b.count x ∨ b.count x < c.count x) → ∃ y, stT gs y w = 1 ∧ c.count y < a.count y := by
        intro x hs hx hw2 hS
        have hxm : x ∈ b ++ c := by
          rcases hS with h | h
          · exact List.mem_append_left _ (List.count_pos_iff.1 (by omega))
          · exact List.mem_append_right _ (List.count_pos_iff.1 (by omega))
        have hall : ∀ t ∈ b ++ c, OkG gs t := fun t ht => by rcases List.mem_append.1 ht with h | h; exact hb t h; exact hc t h
        have hlt : (b ++ c).countP (fun t => decide (stT gs t x = 1)) < (b ++ c).countP (fun t => decide (stT gs t w = 1)) :=
          countP_lt (fun t ht h => by simp only [decide_eq_true_eq] at h ⊢; exact tr (hall t ht) hx hw2 h hs) ⟨x, hxm, by simpa using hs, by simp [stT_self]⟩
        obtain ⟨y, hy, hya⟩ := ih x (by omega) hS
        exact ⟨y, tr (inA hya) hx hw2 hy hs, hya⟩
      rcases hw with hw | hw
      · obtain ⟨x, hx, hs⟩ := h1 w hw
        by_cases hS : a.count x < b.count x ∨ b.count x < c.count x
        · exact step x hs (inA hx) (inB hw) hS
        · exact ⟨x, hs, by omega⟩
      · obtain ⟨x, hx, hs⟩ := h2 w hw
        by_cases hS : a.count x < b.count x ∨ b.count x < c.count x
        · exact step x hs (inB hx) (inC hw) hS
        · exact ⟨x, hs, by omega⟩
  refine ⟨?_, fun u hu => ?_⟩
  · by_cases hS : ∃ w, a.count w < b.count w ∨ b.count w < c.count w
    · obtain ⟨w, hw⟩ := hS
      obtain ⟨x, _, hx⟩ := key _ w (Nat.le_refl _) hw
      exact ⟨x, hx⟩
    · have hno : ∀ w, ¬ (a.count w < b.count w ∨ b.count w < c.count w) := fun w h => hS ⟨w, h⟩
      have := hno x1
      exact ⟨x1, by omega⟩
  · obtain ⟨x, hs, hx⟩ := key _ u (Nat.le_refl _) (by omega)
    exact ⟨x, hx, hs⟩
theorem perm2 {a b c d : T} : [a, b].Perm [c, d] ↔ (a = c ∧ b = d) ∨ (a = d ∧ b = c) := by
  constructor
  · intro h
    have hm : a ∈ [c, d] := h.mem_iff.1 (by simp)
    simp at hm
    rcases hm with rfl | rfl
    · have := h.cons_inv; simp at this; exact .inl ⟨rfl, this⟩
    · have := (h.trans (List.Perm.swap _ _ _)).cons_inv; simp at this; exact .inr ⟨rfl, this⟩
  · rintro (⟨rfl, rfl⟩ | ⟨rfl, rfl⟩)
    · exact List.Perm.refl _
    · exact List.Perm.swap _ _ _
theorem count4 (a b x : T) : [a, a, b, b].count x = 2 * [a, b].count x := by
  simp only [List.count_cons, List.count_nil]; omega
theorem rowL_perm {x y : Li} : (rowL x).Perm (rowL y) ↔ sameL x y = true := by
  have heq : eqL x y = true ↔ (x.l = y.l ∧ x.r = y.r) ∨ (x.l = y.r ∧ x.r = y.l) := by simp [eqL]
  unfold sameL
  rw [Bool.and_eq_true, heq, beq_iff_eq]
  unfold rowL
  cases hx : x.neg <;> cases hy : y.neg
  · simp only [Bool.false_eq_true, if_false, true_and]; exact perm2
  · simp only [Bool.false_eq_true, if_false, if_true, false_and, iff_false]
    intro h; have := h.length_eq; simp at this
  · simp only [Bool.false_eq_true, if_false, if_true, reduceCtorEq, false_and, iff_false]
    intro h; have := h.length_eq; simp at this
  · simp only [if_true, true_and]
    rw [← perm2, List.perm_iff_count, List.perm_iff_count]
    constructor
    · intro h z; have := h z; rw [count4, count4] at this; omega
    · intro h z; rw [count4, count4, h z]
theorem opp_more {gs : List Sy} {x y : Li} (h : oppL x y = true) (hn : x.neg = true) : mulG gs (rowL x) (rowL y) = 1 := by
  unfold oppL at h
  rw [Bool.and_eq_true] at h
  have hy : y.neg = false := by have := h.1; rw [hn] at this; cases hq : y.neg; rfl; rw [hq] at this; simp at this
  have heq : (x.l = y.l ∧ x.r = y.r) ∨ (x.l = y.r ∧ x.r = y.l) := by simpa [eqL] using h.2
  have hp : [x.l, x.r].Perm [y.l, y.r] := perm2.2 heq
  have hc := List.perm_iff_count.1 hp
  have e1 : rowL x = [x.l, x.l, x.r, x.r] := by unfold rowL; rw [if_pos hn]
  have e2 : rowL y = [y.l, y.r] := by unfold rowL; rw [hy]; simp
  rw [mulG_one_iff, overL_iff, e1, e2]
  refine ⟨⟨x.l, ?_⟩, fun u hu => ?_⟩
  · rw [count4, ← hc]
    have : 0 < [x.l, x.r].count x.l := List.count_pos_iff.2 (by simp)
    omega
  · rw [count4, ← hc] at hu; omega
end Go.Proofs.Ytdbadicpbmndbaa
/- Clauses compared: plainly, and walks. -/
set_option linter.unusedVariables false
set_option linter.unusedSimpArgs false
set_option linter.unnecessarySimpa false
/- short -/
namespace Go.Proofs.Ytdbadicpbmndbaa
open Go Lg

/-! ### plain: a literal with its sides in order -/
def canL (x : Li) : Li := if cmpT x.l x.r = 1 then ⟨x.neg, x.r, x.l⟩ else x
theorem canL_same (x : Li) : sameL x (canL x) = true := by
  unfold canL
  split
  · exact sameL_iff.2 ⟨rfl, .inr ⟨rfl, rfl⟩⟩
  · exact sameL_refl x
theorem canL_eq {x y : Li} : canL x = canL y ↔ sameL x y = true := by
  constructor
  · intro h; exact sameL_trans (canL_same x) (h ▸ sameL_symm (canL_same y))
  · intro h
    obtain ⟨h1, h2⟩ := sameL_iff.1 h
    obtain ⟨xn, xl, xr⟩ := x
    obtain ⟨yn, yl, yr⟩ := y
    simp only at h1 h2
    subst h1
    rcases h2 with ⟨rfl, rfl⟩ | ⟨rfl, rfl⟩
    · rfl
    · have hn := cmpT_neg xl xr
      have hr := cmpT_range xl xr
      unfold canL
      simp only
      by_cases c1 : cmpT xl xr = 1
      · rw [if_pos c1, if_neg (by omega)]
      · by_cases c2 : cmpT xr xl = 1
        · rw [if_neg c1, if_pos c2]
        · have : cmpT xl xr = 0 := by omega
          have e := (cmpT_eq _ _).1 this
          subst e; rfl
theorem canL_neg (x : Li) : (canL x).neg = x.neg := by unfold canL; split <;> rfl
/-- one is greater -/
def gtL (gs : List Sy) (x y : Li) : Bool := decide (mulG gs (rowL x) (rowL y) = 1)
theorem mulG_permX {gs : List Sy} {a b a' b' : List T} (h : a.Perm a') (k : b.Perm b') : mulG gs a b = mulG gs a' b' :=
  mulG_perm (rsL_perm fun x => by rw [h.count_eq, k.count_eq]) (rsL_perm fun x => by rw [h.count_eq, k.count_eq])
theorem mulG_can (gs : List Sy) (x y : Li) : mulG gs (rowL (canL x)) (rowL (canL y)) = mulG gs (rowL x) (rowL y) :=
  mulG_permX (rowL_perm.2 (sameL_symm (canL_same x))) (rowL_perm.2 (sameL_symm (canL_same y)))
theorem gtL_can (gs : List Sy) (x y : Li) : gtL gs (canL x) (canL y) = gtL gs x y := by unfold gtL; rw [mulG_can]
def OkL (gs : List Sy) (x : Li) : Prop := OkG gs x.l ∧ OkG gs x.r
theorem OkL.row {gs : List Sy} {x : Li} (h : OkL gs x) : ∀ t ∈ rowL x, OkG gs t := fun t ht => by
  rcases rowL_mem ht with rfl | rfl
  · exact h.1
  · exact h.2
theorem OkL.can {gs : List Sy} {x : Li} (h : OkL gs x) : OkL gs (canL x) := by
  unfold canL
  split
  · exact ⟨h.2, h.1⟩
  · exact h
theorem gtL_ord (gs : List Sy) : OrdX (gtL gs) (OkL gs) where
  irr := fun x => by
    have : mulG gs (rowL x) (rowL x) = 0 := mulG_zero.2 (List.Perm.refl _)
    unfold gtL; rw [this]; rfl
  tr := fun x y z hx hy hz h k => by
    unfold gtL at *
    rw [decide_eq_true_eq] at *
    exact mulG_trans hx.row hy.row hz.row h k
def cmpC (gs : List Sy) (c d : List Li) : Int := mulX (gtL gs) (c.map canL) (d.map canL)
theorem eraseIdx_first {α : Type} [DecidableEq α] {x : α} : ∀ {l : List α} {j : Nat} (hj : j < l.length), l[j] = x → (∀ i (h : i < l.length), i < j → l[i] ≠ x) → l.eraseIdx j = l.erase x
  | y :: r, 0, hj, h, _ => by
    simp only [List.getElem_cons_zero] at h
    subst h; simp
  | y :: r, j + 1, hj, h, hn => by
    have h0 : y ≠ x := hn 0 (by simp) (by omega)
    have ih := eraseIdx_first (l := r) (j := j) (by simpa using hj) (by simpa using h) (fun i hi hij => by have := hn (i + 1) (by simpa using hi) (by omega); simpa using this)
    rw [List.eraseIdx_cons_succ, ih, List.erase_cons, if_neg (by simpa using h0)]
theorem eraseIdx_mapX {α β : Type} (f : α → β) : ∀ (l : List α) (j : Nat), (l.map f).eraseIdx j = (l.eraseIdx j).map f
  | [], j => by simp
  | x :: r, 0 => by simp
  | x :: r, j + 1 => by simp [eraseIdx_mapX f r j]
/-! ### walks -/
theorem DeleteC_does {I : Imm} {n i c : Nat} {A : Option Addr} {xs : List Value} (hi : i < n) (hb : n ≤ 1000000000) (h1 : ∀ u ∈ xs, u.oneCell' = true) :
    Does Try.prog 57 [.slice A n c, .int .i64 i, .int .i64 ((i : Int) + 1)] I [cRow A c n xs] (fun v _ δ' => v = .slice A (n - 1) c ∧ δ' = [cRow A c (n - 1) (xs.take (i * 5) ++ (xs.drop ((i + 1) * 5)).take ((n - (i + 1)) * 5))]) := by
  have e1 : (i : Int) + 1 = ((i + 1 : Nat) : Int) := by omega
  have e2 : i + (n - (i + 1)) = n - 1 := by omega
  rw [e1]
  refine Does.intro Try.func57 rfl Try.ntmps57 rfl fun w0 => ?_
  refine code_seq ?_
  refine code_region ?_
  refine op_v (v_assign rfl) rfl ?_
  refine ops_nil ?_
  refine post_next ?_
  refine code_seq ?_
  refine code_region ?_
  refine OpsJ.rowSome Has.here (by omega) (fun hA hcr => ?_)
  refine op_v (v_move rfl) rfl ?_
  refine op_v (v_move rfl) rfl ?_
  refine op_v (v_move rfl) rfl ?_
  refine op_v (v_move rfl) rfl ?_
  refine op_v (v_len Try.underlying26 rfl) rfl ?_
  refine op_v (v_slice3 Try.underlying26 sz49 rfl rfl rfl rfl (by omega) (by omega) (by omega)) rfl ?_
  refine ops_nil ?_
  refine post_next ?_
  refine code_seq ?_
  refine code_seq ?_
  refine code_region ?_
  refine op_v (v_move rfl) rfl ?_
  refine op_v (v_move rfl) rfl ?_
  refine op_v (v_cmpf rfl rfl rfl (by omega)) rfl ?_
  refine ops_nil ?_
  refine post_next ?_
  refine code_cond_f rfl ?_
  refine code_skip ?_
  refine post_next ?_
  refine code_seq ?_
  refine code_region ?_
  refine op_v (v_move rfl) rfl ?_
  refine op_v (v_len Try.underlying26 rfl) rfl ?_
  refine op_v (v_assign rfl) rfl ?_
  refine ops_nil ?_
  refine post_next ?_
  refine code_seq ?_
  refine code_draw (.fl 0 (.fl 1 (.fl 2 (.fl 3 (.fl 4 (.fl 5 (.ef 6 (.ef 7 .done)))))))) (fun _ => []) mixed (by kernel_rfl) (by kernel_rfl) (fun _ => (List.nil_sublist _)) ?_
  refine e_float rfl rfl (fun hs_ => PF.mk rfl (v_move rfl) hs_) Imm.leA (by intro x hx; cases hx) ?_
  refine e_float rfl rfl (fun hs_ => PF.mk rfl (v_move rfl) hs_) Imm.leA (by intro x hx; cases hx) ?_
  refine e_float rfl rfl (fun hs_ => PF.mk rfl (v_sliceTo Try.underlying26 sz49 rfl rfl (by omega)) hs_) Imm.leA (by intro x hx; cases hx) ?_
  refine e_float rfl rfl (fun hs_ => PF.mk rfl (v_move rfl) hs_) Imm.leA (by intro x hx; cases hx) ?_
  refine e_float rfl rfl (fun hs_ => PF.mk rfl (v_move rfl) hs_) Imm.leA (by intro x hx; cases hx) ?_
  refine e_float rfl rfl (fun hs_ => PF.mk rfl (v_sliceFrom Try.underlying26 sz49 rfl rfl (by omega) (by omega)) hs_) Imm.leA (by intro x hx; cases hx) ?_
  refine e_eff rfl (by intro cs b hc; cases hc) (by intro c hc; cases hc) ?_
  refine o_appendSelf Try.underlying26 bs49 rfl rfl rfl Swap.here (by omega) (by omega) (by omega) h1 (by omega) (by omega) hA ?_
  refine ops_nil ?_
  refine e_next rfl (side_all Imm.leA (fun _ => (by intro x hx; cases hx))) ?_
  refine e_eff rfl (by intro cs b hc; cases hc) (by intro c hc; cases hc) ?_
  refine op_v (v_assign rfl) rfl ?_
  refine ops_nil ?_
  refine e_next rfl (side_nil (by kernel_rfl)) ?_
  refine e_done ?_
  refine post_next ?_
  refine code_seq ?_
  refine code_region ?_
  rw [e2]
  refine op_v (v_move rfl) rfl ?_
  refine op_v (v_move rfl) rfl ?_
  refine op_v (v_len Try.underlying26 rfl) rfl ?_
  refine op_v (v_move rfl) rfl ?_
  refine op_v (v_slice2 Try.underlying26 sz49 rfl rfl rfl (by omega) (by omega)) rfl ?_
  refine o_clear Try.underlying26 (by kernel_rfl) (z := .agg #[.bool false, .int .i64 0, .slice none 0 0, .int .i64 0, .slice none 0 0]) (by rfl) (by rfl) rfl Has.here (by omega) ?_
  refine ops_nil ?_
  refine post_next ?_
  refine code_seq ?_
  refine code_region ?_
  refine op_v (v_move rfl) rfl ?_
  refine op_v (v_assign rfl) rfl ?_
  refine ops_nil ?_
  refine post_next ?_
  refine code_ret ?_
  refine post_ret (rs := [.tmp 6]) rfl (List.Perm.refl _) (.cons (.tmp rfl) .nil) (List.Sublist.refl _) ?_
  exact ⟨rfl, rfl⟩
theorem RowE.del {n : Nat} {α : Type} {E : Elt n α} {I : Imm} {xs : List Value} {al : List α} {i : Nat} (h : RowE E I xs al) (hi : i < al.length) : RowE E I (xs.take (i * n) ++ (xs.drop ((i + 1) * n)).take ((al.length - (i + 1)) * n)) (al.eraseIdx i) := by
  rw [List.eraseIdx_eq_take_drop_succ]
  refine (h.take i (by omega)).app ?_
  have h2 := h.drop (i + 1) (by omega)
  rw [List.take_of_length_le (by rw [h2.length, List.length_drop]; exact Nat.le_refl _)]
  exact h2
theorem rest1C_does {I : Imm} {b b2 : Nat} {x y : Li} {ux uy : List Value} (hx : LitE.R I x ux) (hy : LitE.R I y uy) (h1 : x.l.size ≤ 1000000000) (h2 : x.r.size ≤ 1000000000) (h3 : y.l.size ≤ 1000000000) (h4 : y.r.size ≤ 1000000000) :
    Does Try.prog 125 [.agg uy.toArray, .pointer (some ⟨b, 0, none⟩), .pointer (some ⟨b2, 0, none⟩)] I [.box b 44 [.func (.func 32) #[] #[]], .box b2 49 ux] (fun v _ δ' => v = .bool (sameL x y) ∧ δ' = [.box b 44 [.func (.func 32) #[] #[]], .box b2 49 ux]) := by
  have hx0 := lit_row hx
  have hy0 := lit_row hy
  obtain ⟨la, lc, ra, rc, rfl, _, _⟩ := hx
  obtain ⟨ma, mc, na, nc, rfl, _, _⟩ := hy
  refine Does.intro Try.func125 rfl Try.ntmps125 rfl fun w0 => ?_
  refine code_seq ?_
  refine code_region ?_
  refine o_box rfl rfl rfl (fun b3 => ?_)
  refine op_v (v_assign rfl) rfl ?_
  refine ops_nil ?_
  refine post_next ?_
  refine code_seq ?_
  refine code_region ?_
  refine op_v (v_loadA ty44 rfl rfl) rfl ?_
  refine op_v (v_loadA ty49 rfl rfl) rfl ?_
  refine op_v (v_loadA ty49 rfl rfl) rfl ?_
  refine op_fcall rfl rfl rfl ((Does.toF (args := [_, _]) pl32 (LSame_does hx0 hy0 h1 h2 h3 h4))) Parts.none ?_
  rintro v8 I8 _ hI8 ⟨rfl, rfl⟩
  refine op_v (v_assign rfl) rfl ?_
  refine ops_nil ?_
  refine post_next ?_
  refine code_ret ?_
  refine post_ret (rs := [.tmp 4]) rfl (List.Perm.refl _) (.cons (.tmp rfl) .nil) (List.sublist_cons_self _ _) ?_
  exact ⟨rfl, rfl⟩
theorem canL_mem {x : Li} {l : List Li} : canL x ∈ l.map canL ↔ l.any (fun m => sameL x m) = true := by
  rw [List.mem_map, List.any_eq_true]
  constructor
  · rintro ⟨m, hm, e⟩; exact ⟨m, hm, canL_eq.1 e.symm⟩
  · rintro ⟨m, hm, e⟩; exact ⟨m, hm, (canL_eq.2 e).symm⟩
theorem restC_does {I : Imm} {va vb : Value} {a b : List Li} (ha : RepC I va a) (hb : RepC I vb b) (hsa : SmC a) (hsb : SmC b) (hla : a.length ≤ 1000000) (hlb : b.length ≤ 1000000) :
    Does Try.prog 88 [va, vb, .func (.func 32) #[] #[]] I [] (fun v I' δ' => (∃ O, RepC I' v O ∧ O.map canL = rsX (a.map canL) (b.map canL) ∧ (∀ x ∈ O, x ∈ a) ∧ O.length ≤ a.length) ∧ δ' = []) := by
  obtain ⟨ad, ac, xa, rfl, hca, hba, hcella, hrowa⟩ := ha
  refine Does.intro Try.func88 rfl Try.ntmps88 rfl fun w0 => ?_
  refine code_seq ?_
  refine code_region ?_
  refine o_box rfl rfl rfl (fun b5 => ?_)
  refine op_v (v_assign rfl) rfl ?_
  refine ops_nil ?_
  refine post_next ?_
  refine code_seq ?_
  refine code_region ?_
  refine op_v (v_move rfl) rfl ?_
  refine op_call pl58 rfl rfl ((CloneC_does hb)) Parts.none ?_
  rintro v13 I13 _ hI13 ⟨la, lc, xb, rfl, hrowb, rfl⟩
  refine op_v (v_assign rfl) rfl ?_
  refine ops_nil ?_
  refine post_next ?_
  refine code_seq ?_
  refine code_region ?_
  refine op_v (v_assign rfl) rfl ?_
  refine ops_nil ?_
  refine post_next ?_
  refine code_seq ?_
  refine code_seq ?_
  refine code_region ?_
  refine op_v (v_move rfl) rfl ?_
  refine op_v (v_len Try.underlying26 rfl) rfl ?_
  refine op_v (v_move rfl) rfl ?_
  refine ops_nil ?_
  refine post_next ?_
  refine code_block ?_
  refine CodeJ.view (View.nilRow 49 5) ?_
  refine code_loop (fun m σ' I' δ' => ∃ (k : Nat) (L O : List Li) (A B : Option Addr) (c e : Nat) (xs ys : List Value), m = a.length - k ∧ k ≤ a.length ∧ σ' = [(5, .pointer (some ⟨b5, 0, none⟩)), (7, .slice A L.length c), (8, .slice B O.length e), (14, .slice ad a.length ac), (15, .int .i64 a.length), (16, .int .i64 k)] ∧ I13.le I' ∧ δ' = [cRow B e O.length ys, cRow A c L.length xs, .box b5 44 [.func (.func 32) #[] #[]]] ∧ RowE LitE I' xs L ∧ RowE LitE I' ys O ∧ rsX (a.map canL) (b.map canL) = O.map canL ++ rsX ((a.drop k).map canL) (L.map canL) ∧ O.length ≤ k ∧ L.length ≤ b.length ∧ (∀ t ∈ L, t ∈ b) ∧ ∀ t ∈ O, t ∈ a) a.length [(5, .pointer (some ⟨b5, 0, none⟩)), (7, .slice la b.length lc), (8, .slice none 0 0), (14, .slice ad a.length ac), (15, .int .i64 a.length), (16, .int .i64 (0 : Nat))] ⟨0, b, [], la, none, lc, 0, _, [], rfl, Nat.zero_le _, rfl, Imm.le_refl _, rfl, hrowb, rfl, rfl, Nat.zero_le _, Nat.le_refl _, fun _ h => h, fun _ h => by cases h⟩ ⟨rfl, rfl, rfl, rfl, rfl, rfl, trivial⟩ ?_
  rintro m _ I0 _ ⟨k, L, O, A, B, c, e, xs, ys, rfl, hk, rfl, hI0, rfl, hx, hy, hst, hO, hL, hLb, hOa⟩
  have hle0 : I.le I0 := Imm.leA
  refine code_seq ?_
  refine code_region ?_
  first | refine op_v (v_cmptA rfl rfl rfl) rfl ?_ | refine op_v (v_cmpfA rfl rfl rfl) rfl ?_ | refine op_v (v_cmp rfl rfl rfl) rfl ?_
  refine ops_nil ?_
  refine post_next ?_
  refine code_seq ?_
  refine code_cond rfl (fun hc0 => ?_) (fun hc0 => ?_)
  · have hlt : k < a.length := by simpa using hc0
    obtain ⟨vs, ⟨ka, kc, ma, mc, rfl, hl, hr⟩, hat⟩ := hrowa.cellsAt hcella hlt
    have hs1 := hat.isSome
    have hsk := hsa.at hlt
    rw [List.drop_eq_getElem_cons hlt, List.map_cons, rsX] at hst
    refine code_skip ?_
    refine post_next ?_
    refine code_seq ?_
    refine code_block ?_
    refine code_seq ?_
    refine code_region ?_
    first | refine op_v (v_indexA Try.underlying26 sz49 rfl rfl) rfl ?_ | refine op_v (v_indexIA Try.underlying26 sz49 rfl rfl) rfl ?_
    first | refine op_v (v_loadI0 ty49 (hat.mono hle0) rfl rfl rfl) rfl ?_ | refine op_v (v_loadI ty49 (hat.mono hle0) rfl rfl rfl) rfl ?_
    refine o_alloc z49 rfl rfl (fun b10 => ?_)
    refine o_store ty49 rfl rfl rfl rfl rfl (by repeat (first | exact Swap.here | apply Swap.there)) rfl ?_
    refine ops_nil ?_
    refine post_next ?_
    refine code_seq ?_
    refine code_region ?_
    refine op_v (v_move rfl) rfl ?_
    refine op_v (v_makeFunc rfl rfl) rfl ?_
    refine op_call pl116 rfl rfl ((IdxR_doesC (c := L) (p := fun u => sameL a[k] u) hx (by omega) (fun J y u hJ hu hy => FDoes.ofFunc (args := [_]) (caps := [_, _]) pl125 (rest1C_does (b := b5) (b2 := b10) (LitE.mono (Imm.le_trans hle0 hJ) ⟨ka, kc, ma, mc, rfl, hl, hr⟩) hu hsk.1 hsk.2 (hsb y (hLb y hy)).1 (hsb y (hLb y hy)).2)))) (Parts.three (Del.there (Del.there Del.here)) (Del.there (Del.there Del.here)) Del.here) ?_
    rintro v22 I22 _ hI22 ⟨⟨n22, rfl, hn22⟩, rfl⟩
    refine op_v (v_assign rfl) rfl ?_
    refine ops_nil ?_
    refine post_next ?_
    refine code_seq ?_
    refine code_seq ?_
    refine code_region ?_
    refine op_v (v_move rfl) rfl ?_
    rcases hn22 with ⟨rfl, hany⟩ | ⟨j, hj, rfl, hp, hno⟩
    · rw [if_neg (fun h => by rw [canL_mem.1 h] at hany; cases hany)] at hst
      first | refine op_v (v_cmptA rfl rfl rfl) rfl ?_ | refine op_v (v_cmpfA rfl rfl rfl) rfl ?_ | refine op_v (v_cmp rfl rfl rfl) rfl ?_
      refine ops_nil ?_
      refine post_next ?_
      refine code_cond_t rfl ?_
      refine code_seq ?_
      refine code_region ?_
      refine op_v (v_move rfl) rfl ?_
      refine op_v (v_loadA ty49 rfl rfl) rfl ?_
      refine o_buildSlice (xs := [(Go.Operand.tmp 26)]) Try.underlying26 bs49 rfl rfl rfl rfl rfl (fun b27 => ?_)
      refine o_append Try.underlying26 bs49 rfl rfl rfl (fun v' => by repeat (first | exact Swap.here | apply Swap.there)) (Src.ofRow (by repeat (first | exact Has.here | apply Has.there)) rfl) (by first | rfl | omega | simp) (by simp [cat, cellsL, Value.oneCell']) (by omega) (by omega) (fun a28 c28 => ?_)
      have hl2 : O.length + 1 = (O ++ [a[k]]).length := by simp
      refine op_v (v_assign rfl) rfl ?_
      refine ops_nil ?_
      refine post_next ?_
      refine code_exit ?_
      refine post_exit_then ?_
      refine post_exit ?_
      refine post_next ?_
      refine code_region ?_
      first | refine op_v (v_addb rfl rfl rfl (by omega)) rfl ?_ | refine op_v (v_add rfl rfl) rfl ?_
      refine op_v (v_move rfl) rfl ?_
      refine ops_nil ?_
      refine PostJ.view ((View.drop Del.here).trans ((View.drop (Del.there (Del.there Del.here))).trans (View.perm (List.perm_append_comm (l₁ := [_, _]))))) ?_
      refine post_again (a.length - (k + 1)) [(5, .pointer (some ⟨b5, 0, none⟩)), (7, .slice A L.length c), (8, .slice a28 (O.length + 1) c28), (14, .slice ad a.length ac), (15, .int .i64 a.length), (16, .int .i64 (k + 1 : Nat))] (by omega) ⟨k + 1, L, O ++ [a[k]], A, a28, c, c28, xs, ys ++ liC a[k] ka kc ma mc, rfl, hlt, by rw [hl2], Imm.leA, by simp only [cRow, ← hl2]; rfl, hx.mono Imm.leA, (hy.mono Imm.leA).app (RowE.single ⟨ka, kc, ma, mc, rfl, hl.mono Imm.leA, hr.mono Imm.leA⟩), by rw [hst]; simp, by rw [← hl2]; omega, hL, hLb, fun t ht => by rcases List.mem_append.1 ht with h | h; exact hOa t h; simp at h; subst h; exact List.getElem_mem hlt⟩ ⟨rfl, rfl, rfl, rfl, rfl, rfl, trivial⟩
    · rw [if_pos (canL_mem.2 (List.any_eq_true.2 ⟨L[j], List.getElem_mem hj, hp⟩))] at hst
      have hers : (L.map canL).erase (canL a[k]) = (L.eraseIdx j).map canL := by
        rw [← eraseIdx_first (l := L.map canL) (j := j) (by simpa using hj) (by simp only [List.getElem_map]; exact (canL_eq.2 hp).symm) (fun i hi hij => by
          simp only [List.getElem_map]; intro q
          have h1 := List.any_eq_false.1 hno (L[i]'(by simpa using hi)) (List.mem_take_iff_getElem.2 ⟨i, by omega, rfl⟩)
          exact h1 (canL_eq.1 q.symm)), eraseIdx_mapX]
      rw [hers] at hst
      have hlen : L.length - 1 = (L.eraseIdx j).length := by rw [List.length_eraseIdx]; simp [hj]
      first | refine op_v (v_cmptA rfl rfl rfl) rfl ?_ | refine op_v (v_cmpfA rfl rfl rfl) rfl ?_ | refine op_v (v_cmp rfl rfl rfl) rfl ?_
      refine ops_nil ?_
      refine post_next ?_
      refine code_cond_f rfl ?_
      refine code_skip ?_
      refine post_next ?_
      refine code_region ?_
      refine op_v (v_move rfl) rfl ?_
      refine op_v (v_move rfl) rfl ?_
      refine op_v (v_move rfl) rfl ?_
      first | refine op_v (v_addb rfl rfl rfl (by omega)) rfl ?_ | refine op_v (v_add rfl rfl) rfl ?_
      refine op_call pl57 rfl rfl ((DeleteC_does hj (by omega) hx.one1)) (Parts.one Del.here) ?_
      rintro v33 I33 _ hI33 ⟨rfl, rfl⟩
      refine op_v (v_assign rfl) rfl ?_
      refine ops_nil ?_
      refine post_out ?_
      refine post_next ?_
      refine code_region ?_
      first | refine op_v (v_addb rfl rfl rfl (by omega)) rfl ?_ | refine op_v (v_add rfl rfl) rfl ?_
      refine op_v (v_move rfl) rfl ?_
      refine ops_nil ?_
      refine PostJ.view ((View.drop (Del.there (Del.there Del.here))).trans (View.perm (List.perm_append_comm (l₁ := [_, _])))) ?_
      refine post_again (a.length - (k + 1)) [(5, .pointer (some ⟨b5, 0, none⟩)), (7, .slice A (L.length - 1) c), (8, .slice B O.length e), (14, .slice ad a.length ac), (15, .int .i64 a.length), (16, .int .i64 (k + 1 : Nat))] (by omega) ⟨k + 1, L.eraseIdx j, O, A, B, c, e, _, ys, rfl, hlt, by rw [hlen], Imm.leA, by simp only [cRow, ← hlen]; rfl, (hx.mono Imm.leA).del hj, hy.mono Imm.leA, hst, by omega, by rw [← hlen]; omega, fun t ht => hLb t (List.mem_of_mem_eraseIdx ht), hOa⟩ ⟨rfl, rfl, rfl, rfl, rfl, rfl, trivial⟩
  · have hge : k = a.length := by simp at hc0; omega
    refine code_exit ?_
    refine post_exit_then ?_
    refine post_exit_then ?_
    refine post_exit ?_
    refine post_next ?_
    refine code_seq ?_
    refine code_region ?_
    refine OpsJ.freezeRow Del.here ?_
    rintro I35 A35 c35 hI35 hvr hcr hlr hcells35
    cases hvr
    rw [hge, List.drop_length] at hst
    refine op_v (v_move rfl) rfl ?_
    refine op_v (v_assign rfl) rfl ?_
    refine ops_nil ?_
    refine post_next ?_
    refine code_ret ?_
    refine post_ret (rs := [.tmp 6]) rfl (List.Perm.refl _) (.cons (.tmp rfl) .nil) (List.nil_sublist _) ?_
    exact ⟨⟨O, ⟨_, _, ys, rfl, hcr, by omega, hcells35, hy.mono hI35⟩, by rw [hst]; simp [rsX], hOa, by omega⟩, rfl⟩
abbrev LitLit (P : Program) (fv : Value) (I : Imm) (δm : List Ent) (a b : List Li) (q : Li → Li → Bool) : Prop := ∀ J x y ux uy, I.le J → LitE.R J x ux → LitE.R J y uy → x ∈ a → y ∈ b → FDoes P fv [.agg ux.toArray, .agg uy.toArray] J δm (fun v _ δ' => v = .bool (q x y) ∧ δ' = δm)
theorem over1C_does {I : Imm} {fv : Value} {b5 b8 : Nat} {δm : List Ent} {a b : List Li} {q : Li → Li → Bool} {x y : Li} {ux uy : List Value} (hm : LitLit Try.prog fv I δm a b q) (hx : LitE.R I x ux) (hy : LitE.R I y uy) (hxa : x ∈ a) (hyb : y ∈ b) :
    Does Try.prog 126 [.agg ux.toArray, .pointer (some ⟨b5, 0, none⟩), .pointer (some ⟨b8, 0, none⟩)] I (.box b8 49 uy :: .box b5 44 [fv] :: δm) (fun v _ δ' => v = .bool (q x y) ∧ δ' = .box b8 49 uy :: .box b5 44 [fv] :: δm) := by
  have hx0 := hx
  have hy0 := hy
  obtain ⟨la, lc, ra, rc, rfl, _, _⟩ := hx
  obtain ⟨ma, mc, na, nc, rfl, _, _⟩ := hy
  refine Does.intro Try.func126 rfl Try.ntmps126 rfl fun w0 => ?_
  refine code_seq ?_
  refine code_region ?_
  refine o_box rfl rfl rfl (fun b3 => ?_)
  refine op_v (v_assign rfl) rfl ?_
  refine ops_nil ?_
  refine post_next ?_
  refine code_seq ?_
  refine code_region ?_
  refine op_v (v_loadA ty44 rfl rfl) rfl ?_
  refine op_v (v_loadA ty49 rfl rfl) rfl ?_
  refine op_v (v_loadA ty49 rfl rfl) rfl ?_
  refine op_fcall rfl rfl rfl ((hm _ x y _ _ (Imm.le_refl _) hx0 hy0 hxa hyb)) (List.perm_append_comm (l₁ := [_, _, _])) ?_
  rintro v8 I8 _ hI8 ⟨rfl, rfl⟩
  refine OpsJ.view (View.perm (List.perm_append_comm (l₂ := [_, _, _]))) ?_
  refine op_v (v_assign rfl) rfl ?_
  refine ops_nil ?_
  refine post_next ?_
  refine code_ret ?_
  refine post_ret (rs := [.tmp 4]) rfl (List.Perm.refl _) (.cons (.tmp rfl) .nil) (List.sublist_cons_self _ _) ?_
  exact ⟨rfl, rfl⟩
theorem overC_does {I : Imm} {va vb fv : Value} {a b : List Li} {δm : List Ent} {q : Li → Li → Bool} (hfc : cellsL fv = [fv]) (ha : RepC I va a) (hb : RepC I vb b) (hm : LitLit Try.prog fv I δm a b q) :
    Does Try.prog 90 [va, vb, fv] I δm (fun v I' δ' => v = .bool ((b.all fun y => a.any fun x => q x y) && decide (0 < a.length)) ∧ δ' = δm) := by
  obtain ⟨a0, c0, hsh⟩ := RepE.shape ha
  subst hsh
  obtain ⟨bd, bc, xb, rfl, hcb, hbb, hcellb, hrowb⟩ := hb
  refine Does.intro Try.func90 rfl Try.ntmps90 rfl fun w0 => ?_
  refine code_seq ?_
  refine code_region ?_
  refine o_box rfl rfl rfl (fun b5 => ?_)
  refine op_v (v_assign rfl) rfl ?_
  refine ops_nil ?_
  refine post_next ?_
  refine code_seq ?_
  refine code_seq ?_
  refine code_region ?_
  refine op_v (v_move rfl) rfl ?_
  refine op_v (v_len Try.underlying26 rfl) rfl ?_
  refine op_v (v_move rfl) rfl ?_
  refine ops_nil ?_
  refine post_next ?_
  refine code_block ?_
  rw [hfc]
  refine code_loop (fun m σ' I' δ' => ∃ k : Nat, m = b.length - k ∧ k ≤ b.length ∧ σ' = [(0, .slice a0 a.length c0), (5, .pointer (some ⟨b5, 0, none⟩)), (9, .slice bd b.length bc), (10, .int .i64 b.length), (11, .int .i64 k)] ∧ I.le I' ∧ δ' = .box b5 44 [fv] :: δm ∧ (b.take k).all (fun y => a.any fun x => q x y) = true) b.length [(0, .slice a0 a.length c0), (5, .pointer (some ⟨b5, 0, none⟩)), (9, .slice bd b.length bc), (10, .int .i64 b.length), (11, .int .i64 (0 : Nat))] ⟨0, rfl, Nat.zero_le _, rfl, Imm.le_refl _, rfl, rfl⟩ ⟨rfl, rfl, rfl, rfl, rfl, trivial⟩ ?_
  rintro m _ I0 _ ⟨k, rfl, hk, rfl, hI0, rfl, hall⟩
  refine code_seq ?_
  refine code_region ?_
  first | refine op_v (v_cmptA rfl rfl rfl) rfl ?_ | refine op_v (v_cmpfA rfl rfl rfl) rfl ?_ | refine op_v (v_cmp rfl rfl rfl) rfl ?_
  refine ops_nil ?_
  refine post_next ?_
  refine code_seq ?_
  refine code_cond rfl (fun hc0 => ?_) (fun hc0 => ?_)
  · have hlt : k < b.length := by simpa using hc0
    obtain ⟨vs, ⟨ka, kc, ma, mc, rfl, hl, hr⟩, hat⟩ := hrowb.cellsAt hcellb hlt
    have hs1 := hat.isSome
    refine code_skip ?_
    refine post_next ?_
    refine code_seq ?_
    refine code_block ?_
    refine code_seq ?_
    refine code_region ?_
    first | refine op_v (v_indexA Try.underlying26 sz49 rfl rfl) rfl ?_ | refine op_v (v_indexIA Try.underlying26 sz49 rfl rfl) rfl ?_
    first | refine op_v (v_loadI0 ty49 (hat.mono hI0) rfl rfl rfl) rfl ?_ | refine op_v (v_loadI ty49 (hat.mono hI0) rfl rfl rfl) rfl ?_
    refine o_alloc z49 rfl rfl (fun b8 => ?_)
    refine o_store ty49 rfl rfl rfl rfl rfl (by repeat (first | exact Swap.here | apply Swap.there)) rfl ?_
    refine ops_nil ?_
    refine post_next ?_
    refine code_seq ?_
    refine code_region ?_
    refine op_v (v_move rfl) rfl ?_
    refine op_v (v_makeFunc rfl rfl) rfl ?_
    refine op_call pl74 rfl rfl ((ContC_does (p := fun x => q x b[k]) (ha.mono hI0) (fun J x u hJ hu hxa => FDoes.ofFunc (args := [_]) (caps := [_, _]) pl126 (over1C_does (b5 := b5) (b8 := b8) (fun J2 x y ux uy h2 => hm J2 x y ux uy (Imm.le_trans hI0 (Imm.le_trans hJ h2))) hu (LitE.mono (Imm.le_trans hI0 hJ) ⟨ka, kc, ma, mc, rfl, hl, hr⟩) hxa (List.getElem_mem hlt))))) Parts.all ?_
    rintro v17 I17 _ hI17 ⟨rfl, rfl⟩
    rw [List.append_nil]
    refine op_v (v_not rfl) rfl ?_
    refine ops_nil ?_
    refine post_next ?_
    refine code_cond rfl (fun hc1 => ?_) (fun hc1 => ?_)
    · have hf : (a.any fun x => q x b[k]) = false := by simpa using hc1
      refine code_seq ?_
      refine code_region ?_
      refine op_v (v_assign rfl) rfl ?_
      refine ops_nil ?_
      refine post_next ?_
      refine code_ret ?_
      refine post_ret_block ?_
      refine post_ret_then ?_
      refine post_ret_then ?_
      refine post_ret_block ?_
      refine post_ret_then ?_
      refine post_ret (rs := [.tmp 6]) rfl (List.Perm.refl _) (.cons (.tmp rfl) .nil) (List.Sublist.cons _ (List.Sublist.cons _ (List.Sublist.refl _))) ?_
      exact ⟨by rw [show (b.all fun y => a.any fun x => q x y) = false from by cases h : (b.all fun y => a.any fun x => q x y); rfl; rw [List.all_eq_true.1 h _ (List.getElem_mem hlt)] at hf; cases hf]; rfl, rfl⟩
    · have ht : (a.any fun x => q x b[k]) = true := by simpa using hc1
      refine code_skip ?_
      refine post_out ?_
      refine post_next ?_
      refine code_region ?_
      first | refine op_v (v_addb rfl rfl rfl (by omega)) rfl ?_ | refine op_v (v_add rfl rfl) rfl ?_
      refine op_v (v_move rfl) rfl ?_
      refine ops_nil ?_
      refine PostJ.view (View.drop Del.here) ?_
      refine post_again (b.length - (k + 1)) [(0, .slice a0 a.length c0), (5, .pointer (some ⟨b5, 0, none⟩)), (9, .slice bd b.length bc), (10, .int .i64 b.length), (11, .int .i64 (k + 1 : Nat))] (by omega) ⟨k + 1, rfl, hlt, rfl, Imm.leA, rfl, by rw [List.take_succ_eq_append_getElem hlt, List.all_append, hall]; simp [ht]⟩ ⟨rfl, rfl, rfl, rfl, rfl, trivial⟩
  · have hge : k = b.length := by simp at hc0; omega
    subst hge
    rw [List.take_length] at hall
    refine code_exit ?_
    refine post_exit_then ?_
    refine post_exit_then ?_
    refine post_exit ?_
    refine post_next ?_
    refine code_seq ?_
    refine code_region ?_
    refine op_v (v_move rfl) rfl ?_
    refine op_v (v_len Try.underlying26 rfl) rfl ?_
    refine op_v (v_cmp (z := decide (0 < a.length)) rfl rfl (by simp [cmpI])) rfl ?_
    refine op_v (v_assign rfl) rfl ?_
    refine ops_nil ?_
    refine post_next ?_
    refine code_ret ?_
    refine post_ret (rs := [.tmp 6]) rfl (List.Perm.refl _) (.cons (.tmp rfl) .nil) (List.Sublist.cons _ (List.Sublist.refl _)) ?_
    exact ⟨by rw [hall]; rfl, rfl⟩
theorem Compare1_does {I : Imm} {b3 : Nat} {vg : Value} {gs : List Sy} {x y : Li} {ux uy : List Value} (hg : RepG I vg gs) (hx : LitE.R I x ux) (hy : LitE.R I y uy) (h1 : x.l.size ≤ 1000000000) (h2 : x.r.size ≤ 1000000000) (h3 : y.l.size ≤ 1000000000) (h4 : y.r.size ≤ 1000000000) (hgx : litG gs x = 0) (hgy : litG gs y = 0) :
    Does Try.prog 89 [.agg ux.toArray, .agg uy.toArray, .pointer (some ⟨b3, 0, none⟩)] I [.box b3 22 [vg]] (fun v _ δ' => v = .bool (gtL gs x y) ∧ δ' = [.box b3 22 [vg]]) := by
  have hx0 := lit_row hx
  have hy0 := lit_row hy
  have he : litE gs x y = 0 := by unfold litE; rw [if_neg (by omega)]; exact hgy
  obtain ⟨la, lc, ra, rc, rfl, _, _⟩ := hx
  obtain ⟨ma, mc, na, nc, rfl, _, _⟩ := hy
  refine Does.intro Try.func89 rfl Try.ntmps89 rfl fun w0 => ?_
  refine code_seq ?_
  refine code_region ?_
  refine o_box rfl rfl rfl (fun b3 => ?_)
  refine o_box rfl rfl rfl (fun b4 => ?_)
  refine op_v (v_assign rfl) rfl ?_
  refine ops_nil ?_
  refine post_next ?_
  refine code_seq ?_
  refine code_region ?_
  refine op_v (v_loadA ty22 rfl rfl) rfl ?_
  refine op_v (v_loadA ty49 rfl rfl) rfl ?_
  refine op_v (v_loadA ty49 rfl rfl) rfl ?_
  refine op_call pl49 rfl rfl ((LCompare_does hg hx0 hy0 h1 h2 h3 h4)) Parts.none ?_
  rintro v12 I12 _ hI12 ⟨rfl, rfl⟩
  rw [he, if_pos rfl]
  refine op_v (v_move rfl) rfl ?_
  refine op_v (v_extract rfl rfl) rfl ?_
  refine op_v (v_extract rfl rfl) rfl ?_
  refine op_v (v_assign rfl) rfl ?_
  refine op_v (v_assign rfl) rfl ?_
  refine ops_nil ?_
  refine post_next ?_
  refine code_seq ?_
  refine code_region ?_
  refine op_v (v_move rfl) rfl ?_
  first | refine op_v (v_cmptA rfl rfl rfl) rfl ?_ | refine op_v (v_cmpfA rfl rfl rfl) rfl ?_ | refine op_v (v_cmp rfl rfl rfl) rfl ?_
  refine op_v (v_move rfl) rfl ?_
  first
    | (refine op_want rfl rfl ?_
       refine op_v (v_move rfl) rfl ?_)
    | (refine op_skip rfl rfl (by simp [undef]) rfl ?_)
  first
    | (refine op_want rfl rfl ?_
       refine op_v (v_cmp (z := gtL gs x y) rfl rfl rfl) rfl ?_)
    | (refine op_skip rfl rfl (by simp [undef]) rfl ?_)
  first | refine op_v (v_pickt rfl rfl) rfl ?_ | refine op_v (v_pickf rfl rfl) rfl ?_ | refine op_v (v_pickb rfl rfl rfl) rfl ?_
  refine op_v (v_assign rfl) rfl ?_
  refine ops_nil ?_
  refine post_next ?_
  refine code_ret ?_
  refine post_ret (rs := [.tmp 5]) rfl (List.Perm.refl _) (.cons (.tmp rfl) .nil) (List.Sublist.cons _ (List.Sublist.cons _ (List.Sublist.refl _))) ?_
  exact ⟨rfl, rfl⟩
def cmpE (gs : List Sy) (c d : List Li) : Int := if chkC gs c ≠ 0 then chkC gs c else chkC gs d
theorem chkC_ok {gs : List Sy} {c : List Li} (h : chkC gs c = 0) : chkG gs = 0 ∧ c.length ≤ 32 ∧ ∀ x ∈ c, litG gs x = 0 := by
  unfold chkC at h
  by_cases h1 : chkG gs ≠ 0
  · rw [if_pos h1] at h; exact absurd h h1
  · rw [if_neg h1] at h
    by_cases h2 : 32 < c.length
    · rw [if_pos h2] at h; cases h
    · rw [if_neg h2] at h
      exact ⟨Classical.not_not.1 h1, by omega, chkLs_ok.1 h⟩
theorem overC_X {gs : List Sy} (a b : List Li) : ((b.all fun y => a.any fun x => gtL gs x y) && decide (0 < a.length)) = overX (gtL gs) (a.map canL) (b.map canL) := by
  unfold overX
  rw [List.length_map, Bool.and_comm]
  congr 1
  rw [List.all_map]
  congr 1
  funext y
  simp only [Function.comp, List.any_map]
  congr 1
  funext x
  simp only [Function.comp, gtL_can]
theorem CCompare_does {I : Imm} {vg va vb : Value} {gs : List Sy} {c d : List Li} (hg : RepG I vg gs) (ha : RepC I va c) (hb : RepC I vb d) (hs : SmC c) (ht : SmC d) :
    Does Try.prog 42 [vg, va, vb] I [] (fun v I' δ' => v = .tuple #[.int .i64 (if cmpE gs c d = 0 then cmpC gs c d else 0), .int .i64 (cmpE gs c d)] ∧ δ' = []) := by
  obtain ⟨ga, gc, hsg⟩ := hg.shape
  subst hsg
  refine Does.intro Try.func42 rfl Try.ntmps42 rfl fun w0 => ?_
  refine code_seq ?_
  refine code_region ?_
  refine o_box rfl rfl rfl (fun b3 => ?_)
  refine op_v (v_assign rfl) rfl ?_
  refine op_v (v_assign rfl) rfl ?_
  refine ops_nil ?_
  refine post_next ?_
  refine code_seq ?_
  refine code_seq ?_
  refine code_region ?_
  refine op_v (v_loadA ty22 rfl rfl) rfl ?_
  refine op_v (v_move rfl) rfl ?_
  refine op_call pl46 rfl rfl ((CCheck_does hg ha hs)) Parts.none ?_
  rintro v15 I15 _ hI15 ⟨rfl, rfl⟩
  refine op_v (v_assign rfl) rfl ?_
  refine ops_nil ?_
  refine post_next ?_
  refine code_seq ?_
  refine code_region ?_
  refine op_v (v_move rfl) rfl ?_
  by_cases h17 : chkC gs c ≠ 0
  · have he : cmpE gs c d = chkC gs c := if_pos h17
    first | refine op_v (v_cmptA rfl rfl rfl) rfl ?_ | refine op_v (v_cmpfA rfl rfl rfl) rfl ?_ | refine op_v (v_cmp rfl rfl rfl) rfl ?_
    refine ops_nil ?_
    refine post_next ?_
    refine code_cond_t rfl ?_
    refine code_seq ?_
    refine code_region ?_
    refine op_v (v_move rfl) rfl ?_
    refine op_v (v_assign rfl) rfl ?_
    refine op_v (v_assign rfl) rfl ?_
    refine ops_nil ?_
    refine post_next ?_
    refine code_ret ?_
    refine post_ret_then ?_
    refine post_ret (rs := [.tmp 6, .tmp 7]) rfl (List.Perm.refl _) (.cons (.tmp rfl) (.cons (.tmp rfl) .nil)) (List.nil_sublist _) ?_
    exact ⟨by rw [he, if_neg h17]; rfl, rfl⟩
  · have he : cmpE gs c d = chkC gs d := if_neg h17
    first | refine op_v (v_cmptA rfl rfl rfl) rfl ?_ | refine op_v (v_cmpfA rfl rfl rfl) rfl ?_ | refine op_v (v_cmp rfl rfl rfl) rfl ?_
    refine ops_nil ?_
    refine post_next ?_
    refine code_cond_f rfl ?_
    refine code_skip ?_
    refine post_next ?_
    refine code_seq ?_
    refine code_seq ?_
    refine code_region ?_
    refine op_v (v_loadA ty22 rfl rfl) rfl ?_
    refine op_v (v_move rfl) rfl ?_
    refine op_call pl46 rfl rfl ((CCheck_does (hg.mono Imm.leA) (hb.mono Imm.leA) ht)) Parts.none ?_
    rintro v21 I21 _ hI21 ⟨rfl, rfl⟩
    refine op_v (v_assign rfl) rfl ?_
    refine ops_nil ?_
    refine post_next ?_
    refine code_seq ?_
    refine code_region ?_
    refine op_v (v_move rfl) rfl ?_
    by_cases h23 : chkC gs d ≠ 0
    · first | refine op_v (v_cmptA rfl rfl rfl) rfl ?_ | refine op_v (v_cmpfA rfl rfl rfl) rfl ?_ | refine op_v (v_cmp rfl rfl rfl) rfl ?_
      refine ops_nil ?_
      refine post_next ?_
      refine code_cond_t rfl ?_
      refine code_seq ?_
      refine code_region ?_
      refine op_v (v_move rfl) rfl ?_
      refine op_v (v_assign rfl) rfl ?_
      refine op_v (v_assign rfl) rfl ?_
      refine ops_nil ?_
      refine post_next ?_
      refine code_ret ?_
      refine post_ret_then ?_
      refine post_ret (rs := [.tmp 6, .tmp 7]) rfl (List.Perm.refl _) (.cons (.tmp rfl) (.cons (.tmp rfl) .nil)) (List.nil_sublist _) ?_
      exact ⟨by rw [he, if_neg h23]; rfl, rfl⟩
    · have h17' : chkC gs c = 0 := Classical.not_not.1 h17
      have h23' : chkC gs d = 0 := Classical.not_not.1 h23
      obtain ⟨_, hlc, hgc⟩ := chkC_ok h17'
      obtain ⟨_, hld, hgd⟩ := chkC_ok h23'
      have he0 : cmpE gs c d = 0 := he.trans h23'
      first | refine op_v (v_cmptA rfl rfl rfl) rfl ?_ | refine op_v (v_cmpfA rfl rfl rfl) rfl ?_ | refine op_v (v_cmp rfl rfl rfl) rfl ?_
      refine ops_nil ?_
      refine post_next ?_
      refine code_cond_f rfl ?_
      refine code_skip ?_
      refine post_next ?_
      refine code_seq ?_
      refine code_region ?_
      refine op_v (v_move rfl) rfl ?_
      refine op_v (v_move rfl) rfl ?_
      refine op_call pl88 rfl rfl ((restC_does (ha.mono Imm.leA) (hb.mono Imm.leA) hs ht (by omega) (by omega))) Parts.none ?_
      rintro v27 I27 _ hI27 ⟨⟨X, hX, hXm, hXs, hXl⟩, rfl⟩
      refine op_v (v_move rfl) rfl ?_
      refine op_v (v_move rfl) rfl ?_
      refine op_call pl88 rfl rfl ((restC_does (hb.mono Imm.leA) (ha.mono Imm.leA) ht hs (by omega) (by omega))) Parts.none ?_
      rintro v30 I30 _ hI30 ⟨⟨Y, hY, hYm, hYs, hYl⟩, rfl⟩
      obtain ⟨xa, xc, rfl⟩ := RepE.shape hX
      obtain ⟨ya, yc, rfl⟩ := RepE.shape hY
      have hXn : X.length = (rsX (c.map canL) (d.map canL)).length := by rw [← hXm, List.length_map]
      have hYn : Y.length = (rsX (d.map canL) (c.map canL)).length := by rw [← hYm, List.length_map]
      refine op_v (v_assign rfl) rfl ?_
      refine op_v (v_assign rfl) rfl ?_
      refine ops_nil ?_
      refine post_next ?_
      refine code_seq ?_
      refine code_region ?_
      refine op_v (v_makeFunc rfl rfl) rfl ?_
      refine op_v (v_assign rfl) rfl ?_
      refine ops_nil ?_
      refine post_next ?_
      refine code_seq ?_
      refine code_block ?_
      refine code_seq ?_
      refine code_region ?_
      refine op_v (v_move rfl) rfl ?_
      refine op_v (v_len Try.underlying26 rfl) rfl ?_
      refine op_v (v_move rfl) rfl ?_
      refine op_v (v_len Try.underlying26 rfl) rfl ?_
      first | refine op_v (v_addb rfl rfl rfl (by omega)) rfl ?_ | refine op_v (v_add rfl rfl) rfl ?_
      by_cases h38 : X.length + Y.length = 0
      · first | refine op_v (v_cmptA rfl rfl rfl) rfl ?_ | refine op_v (v_cmpfA rfl rfl rfl) rfl ?_ | refine op_v (v_cmp rfl rfl rfl) rfl ?_
        refine op_v (v_assign rfl) rfl ?_
        refine ops_nil ?_
        refine post_next ?_
        refine code_cond_t rfl ?_
        refine code_seq ?_
        refine code_region ?_
        refine op_v (v_assign rfl) rfl ?_
        refine op_v (v_assign rfl) rfl ?_
        refine ops_nil ?_
        refine post_next ?_
        refine code_ret ?_
        refine post_ret_block ?_
        refine post_ret_then ?_
        refine post_ret (rs := [.tmp 6, .tmp 7]) rfl (List.Perm.refl _) (.cons (.tmp rfl) (.cons (.tmp rfl) .nil)) (List.nil_sublist _) ?_
        exact ⟨by rw [he0, if_pos rfl]; unfold cmpC mulX; rw [if_pos (by omega)]; rfl, rfl⟩
      · first | refine op_v (v_cmptA rfl rfl rfl) rfl ?_ | refine op_v (v_cmpfA rfl rfl rfl) rfl ?_ | refine op_v (v_cmp rfl rfl rfl) rfl ?_
        refine op_v (v_assign rfl) rfl ?_
        refine ops_nil ?_
        refine post_next ?_
        refine code_cond_f rfl ?_
        refine code_seq ?_
        refine code_region ?_
        refine op_v (v_move rfl) rfl ?_
        refine op_v (v_move rfl) rfl ?_
        refine op_v (v_move rfl) rfl ?_
        refine op_call pl90 rfl rfl ((overC_does (q := gtL gs) (δm := [.box b3 22 [.slice ga gs.length gc]]) rfl (hX.mono Imm.leA) (hY.mono Imm.leA) (fun J x y ux uy hJ hux huy hx hy => FDoes.ofFunc (args := [_, _]) (caps := [_]) pl89 (Compare1_does (b3 := b3) (hg.mono (Imm.le_trans (show I.le I30 from Imm.leA) hJ)) hux huy (hs x (hXs x hx)).1 (hs x (hXs x hx)).2 (ht y (hYs y hy)).1 (ht y (hYs y hy)).2 (hgc x (hXs x hx)) (hgd y (hYs y hy)))))) Parts.all ?_
        rintro v43 I43 _ hI43 ⟨rfl, rfl⟩
        rw [List.append_nil, overC_X, hXm, hYm]
        refine op_v (v_assign rfl) rfl ?_
        refine ops_nil ?_
        refine post_next ?_
        refine code_cond rfl (fun hc3 => ?_) (fun hc3 => ?_)
        · refine code_seq ?_
          refine code_region ?_
          refine op_v (v_assign rfl) rfl ?_
          refine op_v (v_assign rfl) rfl ?_
          refine ops_nil ?_
          refine post_next ?_
          refine code_ret ?_
          refine post_ret_block ?_
          refine post_ret_then ?_
          refine post_ret (rs := [.tmp 6, .tmp 7]) rfl (List.Perm.refl _) (.cons (.tmp rfl) (.cons (.tmp rfl) .nil)) (List.nil_sublist _) ?_
          exact ⟨by rw [he0, if_pos rfl]; unfold cmpC mulX; rw [if_neg (by omega), if_pos hc3]; rfl, rfl⟩
        · refine code_seq ?_
          refine code_region ?_
          refine op_v (v_move rfl) rfl ?_
          refine op_v (v_move rfl) rfl ?_
          refine op_v (v_move rfl) rfl ?_
          refine op_call pl90 rfl rfl ((overC_does (q := gtL gs) (δm := [.box b3 22 [.slice ga gs.length gc]]) rfl (hY.mono Imm.leA) (hX.mono Imm.leA) (fun J x y ux uy hJ hux huy hx hy => FDoes.ofFunc (args := [_, _]) (caps := [_]) pl89 (Compare1_does (b3 := b3) (hg.mono (Imm.le_trans (show I.le I43 from Imm.leA) hJ)) hux huy (ht x (hYs x hx)).1 (ht x (hYs x hx)).2 (hs y (hXs y hy)).1 (hs y (hXs y hy)).2 (hgd x (hYs x hx)) (hgc y (hXs y hy)))))) Parts.all ?_
          rintro v48 I48 _ hI48 ⟨rfl, rfl⟩
          rw [List.append_nil, overC_X, hXm, hYm]
          refine op_v (v_assign rfl) rfl ?_
          refine ops_nil ?_
          refine post_next ?_
          refine code_cond rfl (fun hc4 => ?_) (fun hc4 => ?_)
          · refine code_seq ?_
            refine code_region ?_
            refine op_v (v_assign rfl) rfl ?_
            refine op_v (v_assign rfl) rfl ?_
            refine ops_nil ?_
            refine post_next ?_
            refine code_ret ?_
            refine post_ret_block ?_
            refine post_ret_then ?_
            refine post_ret (rs := [.tmp 6, .tmp 7]) rfl (List.Perm.refl _) (.cons (.tmp rfl) (.cons (.tmp rfl) .nil)) (List.nil_sublist _) ?_
            exact ⟨by rw [he0, if_pos rfl]; unfold cmpC mulX; rw [if_neg (by omega), if_neg (by rw [hc3]; simp), if_pos hc4]; rfl, rfl⟩
          · refine code_skip ?_
            refine post_out ?_
            refine post_next ?_
            refine code_seq ?_
            refine code_region ?_
            refine op_v (v_assign rfl) rfl ?_
            refine op_v (v_assign rfl) rfl ?_
            refine ops_nil ?_
            refine post_next ?_
            refine code_ret ?_
            refine post_ret (rs := [.tmp 6, .tmp 7]) rfl (List.Perm.refl _) (.cons (.tmp rfl) (.cons (.tmp rfl) .nil)) (List.nil_sublist _) ?_
            exact ⟨by rw [he0, if_pos rfl]; unfold cmpC mulX; rw [if_neg (by omega), if_neg (by rw [hc3]; simp), if_neg (by rw [hc4]; simp)]; rfl, rfl⟩
end Go.Proofs.Ytdbadicpbmndbaa
/- Walks: the statement that it is an order. -/
set_option linter.unusedVariables false
set_option linter.unusedSimpArgs false
/- short -/
namespace Go.Proofs.Ytdbadicpbmndbaa
open Go Lg

theorem varsP_nil : ∀ {l : List (Nat × T)}, varsP l = [] → ∀ x ∈ l, 0 ≤ x.2.head := by
  intro l
  induction l using snoc_ind with
  | h0 => intro _ x hx; cases hx
  | h1 l y ih =>
    intro h x hx
    rw [varsP_snoc] at h
    by_cases hc : 0 ≤ -1 - y.2.head ∧ -1 - y.2.head ∉ varsP l
    · rw [if_pos hc] at h; simp at h
    · rw [if_neg hc] at h
      rcases List.mem_append.1 hx with hx | hx
      · exact ih h x hx
      · simp at hx; subst hx
        rw [h] at hc
        have : ¬ 0 ≤ -1 - x.2.head := fun q => hc ⟨q, by simp⟩
        omega
theorem vars_ground {t : T} (h : (varsP (partsT 1 t)).length = 0) : ∀ k ∈ hds t, 0 ≤ k := by
  intro k hk
  obtain ⟨x, hx, rfl⟩ := List.mem_map.1 hk
  have h2 : x.2 ∈ (partsT 1 t).map (·.2) := by rw [snd_T 1 true t]; exact List.mem_map_of_mem hx
  obtain ⟨y, hy, hyx⟩ := List.mem_map.1 h2
  rw [← hyx]
  exact varsP_nil (List.eq_nil_of_length_eq_zero h) y hy
theorem wrong2 {gs : List Sy} {a b : T} (h : wrongG gs [a, b] = 0) : OkG gs a ∧ OkG gs b := by
  have := wrongG_ok.1 h; exact ⟨this a (by simp), this b (by simp)⟩

end Go.Proofs.Ytdbadicpbmndbaa
/- Walks: the document's answer on variables, one by one; clauses without variables: the statement. -/
set_option linter.unusedVariables false
set_option linter.unusedSimpArgs false
set_option linter.unnecessarySimpa false
/- short -/
namespace Go.Proofs.Ytdbadicpbmndbaa
open Go Lg

mutual
def uvT : T → List Int
  | .mk h ts => uvL (if h < 0 then [-1 - h] else []) ts
def uvL : List Int → List T → List Int
  | acc, [] => acc
  | acc, t :: r => uvL (uniL acc (uvT t)) r
end
theorem uvL_app : ∀ (a b : List T) (acc : List Int), uvL acc (a ++ b) = uvL (uvL acc a) b
  | [], b, acc => by simp [uvL]
  | t :: r, b, acc => by simp only [List.cons_append, uvL, uvL_app r b]
theorem uvL_take (acc : List Int) (ts : List T) (k : Nat) (h : k < ts.length) : uvL acc (ts.take (k + 1)) = uniL (uvL acc (ts.take k)) (uvT ts[k]) := by
  rw [List.take_succ_eq_append_getElem h, uvL_app]; simp [uvL]
mutual
theorem uvT_len : ∀ t : T, (uvT t).length ≤ t.size
  | .mk h ts => by
    have h1 := uvL_len ts (if h < 0 then [-1 - h] else [])
    have h2 : (if h < 0 then [-1 - h] else []).length ≤ 1 := by split <;> simp
    simp only [uvT, T.size]; omega
theorem uvL_len : ∀ (ts : List T) (acc : List Int), (uvL acc ts).length ≤ acc.length + sizeL ts
  | [], acc => by simp [uvL, sizeL]
  | t :: r, acc => by
    have h1 := uvT_len t
    have h2 := uniL_len acc (uvT t)
    have h3 := uvL_len r (uniL acc (uvT t))
    simp only [uvL, sizeL]; omega
end
theorem RVars2_does : ∀ (n : Nat) (t : T), t.size ≤ n → t.size ≤ 100000 → ∀ (I : Imm) (v : Value), RepT I v t →
    Does Try.prog 113 [v] I [] (fun v I' δ' => RInts I' v (uvT t) ∧ δ' = []) := by
  intro n
  induction n with
  | zero => intro t ht; have := t.size_pos; omega
  | succ n ih =>
    intro t ht hbig I v hv
    obtain ⟨h, ts⟩ := t
    obtain ⟨ad, c, ss, rfl, hr, hc, hb, hat, hsub⟩ := hv.elim
    have hsz : (T.mk h ts).size = 1 + sizeL ts := by simp [T.size]
    have hr0 := hr
    unfold InR at hr0
    refine Does.intro Try.func113 rfl Try.ntmps113 rfl fun w0 => ?_
    refine code_seq ?_
    refine code_region ?_
    refine o_box rfl rfl rfl (fun b1 => ?_)
    refine op_v (v_assign rfl) rfl ?_
    refine ops_nil ?_
    refine post_next ?_
    refine code_seq ?_
    refine code_region ?_
    refine op_v (v_assign rfl) rfl ?_
    refine ops_nil ?_
    refine post_next ?_
    refine code_seq_meet (fun σ' I' δ' => ∃ (ar : Option Addr) (cr : Nat) (ini : List Int), σ' = [(1, .pointer (some ⟨b1, 0, none⟩)), (3, .slice ar ini.length cr)] ∧ I = I' ∧ δ' = [iRow ar cr ini, .box b1 47 [.int .i64 h, .slice ad ts.length c]] ∧ uvT (.mk h ts) = uvL ini ts ∧ ini.length ≤ 1 ∧ ∀ x ∈ ini, InR x) ?_ ?_
    · refine code_seq ?_
      refine code_region ?_
      first | refine op_v (v_fieldB 0 Try.underlying47 rfl rfl fz3 rfl) rfl ?_ | refine op_v (v_fieldI 0 Try.underlying47 rfl rfl fz3 rfl (by assumption)) rfl ?_ | refine op_v (v_field Try.underlying47 rfl fz3 rfl rfl) rfl ?_
      refine op_v (v_loadA ty3 rfl rfl) rfl ?_
      first | refine op_v (v_cmptA rfl rfl rfl) rfl ?_ | refine op_v (v_cmpfA rfl rfl rfl) rfl ?_ | refine op_v (v_cmp rfl rfl rfl) rfl ?_
      refine ops_nil ?_
      refine post_next ?_
      refine code_cond rfl (fun hc0 => ?_) (fun hc0 => ?_)
      · have h9 : h < 0 := by simpa using hc0
        refine code_region ?_
        refine op_v (v_move rfl) rfl ?_
        first | refine op_v (v_fieldB 0 Try.underlying47 rfl rfl fz3 rfl) rfl ?_ | refine op_v (v_fieldI 0 Try.underlying47 rfl rfl fz3 rfl (by assumption)) rfl ?_ | refine op_v (v_field Try.underlying47 rfl fz3 rfl rfl) rfl ?_
        refine op_v (v_loadA ty3 rfl rfl) rfl ?_
        first | refine op_v (v_subb rfl rfl rfl (by omega)) rfl ?_ | refine op_v (v_sub rfl rfl) rfl ?_
        refine o_buildSlice (xs := [(Go.Operand.tmp 13)]) Try.underlying62 bs3 rfl rfl rfl rfl rfl (fun b14 => ?_)
        refine OpsJ.view (View.nilRow 3 1) ?_
        refine o_append Try.underlying62 bs3 rfl rfl rfl (fun v' => by repeat (first | exact Swap.here | apply Swap.there)) (Src.ofRow (by repeat (first | exact Has.here | apply Has.there)) rfl) (by first | rfl | omega | simp) (by simp [cat, cellsL, Value.oneCell']) (by omega) (by omega) (fun a15 c15 => ?_)
        refine op_v (v_assign rfl) rfl ?_
        refine ops_nil ?_
        refine PostJ.view (View.drop (Del.there Del.here)) ?_
        refine post_meet _ ⟨a15, c15, [-1 - h], rfl, rfl, by simp [iRow, cat, cellsL], by simp only [uvT]; rw [if_pos h9], by simp, fun x hx => by simp at hx; subst hx; unfold InR; omega⟩ ⟨rfl, rfl, trivial⟩
      · have h9 : ¬ h < 0 := by simpa using hc0
        refine code_skip ?_
        refine PostJ.view (View.nilRow 3 1) ?_
        refine post_meet _ ⟨none, 0, [], rfl, rfl, rfl, by simp only [uvT]; rw [if_neg h9], by simp, fun x hx => by cases hx⟩ ⟨rfl, rfl, trivial⟩
    · rintro _ _ _ ⟨ar, cr, ini, rfl, rfl, rfl, hue, hil, hin0⟩
      refine code_seq ?_
      refine code_seq ?_
      refine code_region ?_
      refine op_v (v_assign rfl) rfl ?_
      refine ops_nil ?_
      refine post_next ?_
      refine code_block ?_
      refine code_loop (fun m σ' I' δ' => ∃ (k : Nat) (ar : Option Addr) (cr : Nat), m = ts.length - k ∧ k ≤ ts.length ∧ σ' = [(1, .pointer (some ⟨b1, 0, none⟩)), (3, .slice ar (uvL ini (ts.take k)).length cr), (4, .int .i64 k)] ∧ I.le I' ∧ δ' = [iRow ar cr (uvL ini (ts.take k)), .box b1 47 [.int .i64 h, .slice ad ts.length c]] ∧ ∀ x ∈ uvL ini (ts.take k), InR x) ts.length [(1, .pointer (some ⟨b1, 0, none⟩)), (3, .slice ar ini.length cr), (4, .int .i64 (0 : Nat))] ⟨0, ar, cr, rfl, Nat.zero_le _, rfl, Imm.le_refl _, rfl, hin0⟩ ⟨rfl, rfl, rfl, trivial⟩ ?_
      rintro m _ I0 _ ⟨k, ar, cr, rfl, hk, rfl, hI0, rfl, hin⟩
      have hgl := uvL_len (ts.take k) ini
      refine code_seq ?_
      refine code_seq ?_
      refine code_region ?_
      refine op_v (v_move rfl) rfl ?_
      first | refine op_v (v_fieldB 1 Try.underlying47 rfl rfl fz45 rfl) rfl ?_ | refine op_v (v_fieldI 1 Try.underlying47 rfl rfl fz45 rfl (by assumption)) rfl ?_ | refine op_v (v_field Try.underlying47 rfl fz45 rfl rfl) rfl ?_
      refine op_v (v_loadA ty45 rfl rfl) rfl ?_
      refine op_v (v_len Try.underlying45 rfl) rfl ?_
      first | refine op_v (v_cmptA rfl rfl rfl) rfl ?_ | refine op_v (v_cmpfA rfl rfl rfl) rfl ?_ | refine op_v (v_cmp rfl rfl rfl) rfl ?_
      refine ops_nil ?_
      refine post_next ?_
      refine code_cond rfl (fun hc1 => ?_) (fun hc1 => ?_)
      · have hlt : k < ts.length := by simpa using hc1
        have hs1 := (hat k hlt).isSome
        have hm := sizeL_mem ts k hlt
        have hst := sizeL_take ts k hlt
        have hsd : sizeL (ts.take (k + 1)) + sizeL (ts.drop (k + 1)) = sizeL ts := by rw [← sizeL_app, List.take_append_drop]
        have hvt := uvL_take ini ts k hlt
        have hpl := uvT_len ts[k]
        refine code_skip ?_
        refine post_next ?_
        refine code_seq ?_
        refine code_block ?_
        refine code_seq ?_
        refine code_region ?_
        first | refine op_v (v_fieldB 1 Try.underlying47 rfl rfl fz45 rfl) rfl ?_ | refine op_v (v_fieldI 1 Try.underlying47 rfl rfl fz45 rfl (by assumption)) rfl ?_ | refine op_v (v_field Try.underlying47 rfl fz45 rfl rfl) rfl ?_
        refine op_v (v_loadA ty45 rfl rfl) rfl ?_
        refine op_v (v_move rfl) rfl ?_
        first | refine op_v (v_indexA Try.underlying45 sz47 rfl rfl) rfl ?_ | refine op_v (v_indexIA Try.underlying45 sz47 rfl rfl) rfl ?_
        first | refine op_v (v_loadI0 ty47 ((hat k hlt).mono hI0) rfl rfl rfl) rfl ?_ | refine op_v (v_loadI ty47 ((hat k hlt).mono hI0) rfl rfl rfl) rfl ?_
        refine op_call pl113 rfl rfl ((ih ts[k] (by omega) (by omega) _ _ ((hsub k hlt).mono hI0))) Parts.none ?_
        rintro v28 I28 _ hI28 ⟨hv28, rfl⟩
        have hn28 := hv28.len
        obtain ⟨va, vc, rfl⟩ := hv28.shape
        refine op_v (v_assign rfl) rfl ?_
        refine ops_nil ?_
        refine post_next ?_
        refine code_seq ?_
        refine code_region ?_
        refine op_v (v_assign rfl) rfl ?_
        refine ops_nil ?_
        refine post_next ?_
        refine code_block ?_
        refine code_loop (fun m σ' I' δ' => ∃ (j : Nat) (ar : Option Addr) (cr : Nat), m = (uvT ts[k]).length - j ∧ j ≤ (uvT ts[k]).length ∧ σ' = [(1, .pointer (some ⟨b1, 0, none⟩)), (3, .slice ar (uniL (uvL ini (ts.take k)) ((uvT ts[k]).take j)).length cr), (4, .int .i64 k), (5, .slice va (uvT ts[k]).length vc), (6, .int .i64 j)] ∧ I28.le I' ∧ δ' = [iRow ar cr (uniL (uvL ini (ts.take k)) ((uvT ts[k]).take j)), .box b1 47 [.int .i64 h, .slice ad ts.length c]] ∧ ∀ x ∈ uniL (uvL ini (ts.take k)) ((uvT ts[k]).take j), InR x) (uvT ts[k]).length [(1, .pointer (some ⟨b1, 0, none⟩)), (3, .slice ar (uvL ini (ts.take k)).length cr), (4, .int .i64 k), (5, .slice va (uvT ts[k]).length vc), (6, .int .i64 (0 : Nat))] ⟨0, ar, cr, rfl, Nat.zero_le _, rfl, Imm.le_refl _, rfl, hin⟩ ⟨rfl, rfl, rfl, rfl, rfl, trivial⟩ ?_
        rintro m _ I1 _ ⟨j, ar, cr, rfl, hj, rfl, hI1, rfl, hin2⟩
        have hul := uniL_len (uvL ini (ts.take k)) ((uvT ts[k]).take j)
        rw [List.length_take] at hul
        refine code_seq ?_
        refine code_seq ?_
        refine code_region ?_
        refine op_v (v_move rfl) rfl ?_
        refine op_v (v_move rfl) rfl ?_
        refine op_v (v_len Try.underlying62 rfl) rfl ?_
        first | refine op_v (v_cmptA rfl rfl rfl) rfl ?_ | refine op_v (v_cmpfA rfl rfl rfl) rfl ?_ | refine op_v (v_cmp rfl rfl rfl) rfl ?_
        refine ops_nil ?_
        refine post_next ?_
        refine code_cond rfl (fun hc2 => ?_) (fun hc2 => ?_)
        · have hjl : j < (uvT ts[k]).length := by simpa using hc2
          have hatj := hv28.atI j hjl
          have hs2 := hatj.isSome
          have hut := uniL_take (uvL ini (ts.take k)) (uvT ts[k]) j hjl
          have hinj := hn28.2 _ (List.getElem_mem hjl)
          refine code_skip ?_
          refine post_next ?_
          refine code_seq ?_
          refine code_block ?_
          refine code_seq ?_
          refine code_region ?_
          refine op_v (v_move rfl) rfl ?_
          refine op_v (v_move rfl) rfl ?_
          first | refine op_v (v_indexA Try.underlying62 sz3 rfl rfl) rfl ?_ | refine op_v (v_indexIA Try.underlying62 sz3 rfl rfl) rfl ?_
          first | refine op_v (v_loadI0 ty3 (hatj.mono hI1) rfl rfl rfl) rfl ?_ | refine op_v (v_loadI ty3 (hatj.mono hI1) rfl rfl rfl) rfl ?_
          refine op_v (v_move rfl) rfl ?_
          refine op_call pl54 rfl rfl ((In_does (by omega))) (Parts.one Del.here) ?_
          rintro v40 I40 _ hI40 ⟨rfl, rfl⟩
          by_cases hm41 : (uvT ts[k])[j] ∈ uniL (uvL ini (ts.take k)) ((uvT ts[k]).take j)
          · rw [decide_eq_true hm41]
            have hae : addN (uniL (uvL ini (ts.take k)) ((uvT ts[k]).take j)) (uvT ts[k])[j] = uniL (uvL ini (ts.take k)) ((uvT ts[k]).take j) := if_pos hm41
            rw [hae] at hut
            refine op_v (v_not rfl) rfl ?_
            refine ops_nil ?_
            refine post_next ?_
            refine code_cond_f rfl ?_
            refine code_skip ?_
            refine post_out ?_
            refine post_next ?_
            refine code_region ?_
            refine op_v (v_move rfl) rfl ?_
            first | refine op_v (v_addb rfl rfl rfl (by omega)) rfl ?_ | refine op_v (v_add rfl rfl) rfl ?_
            refine op_v (v_assign rfl) rfl ?_
            refine ops_nil ?_
            refine post_again ((uvT ts[k]).length - (j + 1)) [(1, .pointer (some ⟨b1, 0, none⟩)), (3, .slice ar (uniL (uvL ini (ts.take k)) ((uvT ts[k]).take j)).length cr), (4, .int .i64 k), (5, .slice va (uvT ts[k]).length vc), (6, .int .i64 (j + 1 : Nat))] (by omega) ⟨j + 1, ar, cr, rfl, hjl, by rw [hut], Imm.leA, by rw [hut]; rfl, by rw [hut]; exact hin2⟩ ⟨rfl, rfl, rfl, rfl, rfl, trivial⟩
          · rw [decide_eq_false hm41]
            have hae : addN (uniL (uvL ini (ts.take k)) ((uvT ts[k]).take j)) (uvT ts[k])[j] = uniL (uvL ini (ts.take k)) ((uvT ts[k]).take j) ++ [(uvT ts[k])[j]] := if_neg hm41
            rw [hae] at hut
            refine op_v (v_not rfl) rfl ?_
            refine ops_nil ?_
            refine post_next ?_
            refine code_cond_t rfl ?_
            refine code_region ?_
            refine op_v (v_move rfl) rfl ?_
            refine op_v (v_move rfl) rfl ?_
            refine op_v (v_move rfl) rfl ?_
            first | refine op_v (v_indexA Try.underlying62 sz3 rfl rfl) rfl ?_ | refine op_v (v_indexIA Try.underlying62 sz3 rfl rfl) rfl ?_
            first | refine op_v (v_loadI0 ty3 (hatj.mono Imm.leA) rfl rfl rfl) rfl ?_ | refine op_v (v_loadI ty3 (hatj.mono Imm.leA) rfl rfl rfl) rfl ?_
            refine o_buildSlice (xs := [(Go.Operand.tmp 46)]) Try.underlying62 bs3 rfl rfl rfl rfl rfl (fun b47 => ?_)
            refine o_append Try.underlying62 bs3 rfl rfl rfl (fun v' => by repeat (first | exact Swap.here | apply Swap.there)) (Src.ofRow (by repeat (first | exact Has.here | apply Has.there)) rfl) (by first | rfl | omega | simp) (by simp [cat, cellsL, Value.oneCell']) (by omega) (by omega) (fun a48 c48 => ?_)
            refine op_v (v_assign rfl) rfl ?_
            refine ops_nil ?_
            refine post_out ?_
            refine post_next ?_
            refine code_region ?_
            refine op_v (v_move rfl) rfl ?_
            first | refine op_v (v_addb rfl rfl rfl (by omega)) rfl ?_ | refine op_v (v_add rfl rfl) rfl ?_
            refine op_v (v_assign rfl) rfl ?_
            refine ops_nil ?_
            refine PostJ.view (View.drop Del.here) ?_
            refine post_again ((uvT ts[k]).length - (j + 1)) [(1, .pointer (some ⟨b1, 0, none⟩)), (3, .slice a48 ((uniL (uvL ini (ts.take k)) ((uvT ts[k]).take j)).length + 1) c48), (4, .int .i64 k), (5, .slice va (uvT ts[k]).length vc), (6, .int .i64 (j + 1 : Nat))] (by omega) ⟨j + 1, a48, c48, rfl, hjl, by rw [hut]; simp, Imm.leA, by rw [hut]; simp [iRow, cat, cellsL], by rw [hut]; intro x hx; rcases List.mem_append.1 hx with h | h; exact hin2 x h; simp at h; subst h; exact hinj⟩ ⟨rfl, rfl, rfl, rfl, rfl, trivial⟩
        · have hjg : j = (uvT ts[k]).length := by simp at hc2; omega
          subst hjg
          rw [List.take_length, ← hvt] at hin2
          rw [List.take_length, ← hvt]
          refine code_exit ?_
          refine post_exit_then ?_
          refine post_exit_then ?_
          refine post_exit ?_
          refine post_out ?_
          refine post_next ?_
          refine code_region ?_
          refine op_v (v_move rfl) rfl ?_
          first | refine op_v (v_addb rfl rfl rfl (by omega)) rfl ?_ | refine op_v (v_add rfl rfl) rfl ?_
          refine op_v (v_assign rfl) rfl ?_
          refine ops_nil ?_
          refine post_again (ts.length - (k + 1)) [(1, .pointer (some ⟨b1, 0, none⟩)), (3, .slice ar (uvL ini (ts.take (k + 1))).length cr), (4, .int .i64 (k + 1 : Nat))] (by omega) ⟨k + 1, ar, cr, rfl, hlt, rfl, Imm.leA, rfl, hin2⟩ ⟨rfl, rfl, rfl, trivial⟩
      · have hge : k = ts.length := by simp at hc1; omega
        subst hge
        rw [List.take_length] at hin hgl
        rw [List.take_length]
        refine code_exit ?_
        refine post_exit_then ?_
        refine post_exit_then ?_
        refine post_exit ?_
        refine post_next ?_
        refine code_seq ?_
        refine code_region ?_
        refine OpsJ.freezeRow Del.here ?_
        rintro I49 ar2 cr2 hI49 hvr hcr hlr hcells
        cases hvr
        refine op_v (v_move rfl) rfl ?_
        refine op_v (v_assign rfl) rfl ?_
        refine ops_nil ?_
        refine post_next ?_
        refine code_ret ?_
        refine post_ret (rs := [.tmp 2]) rfl (List.Perm.refl _) (.cons (.tmp rfl) .nil) (List.nil_sublist _) ?_
        exact ⟨by rw [hue]; exact RInts.of rfl hcr (by omega) hcells hin, rfl⟩
theorem RVars10_does {I : Imm} {v : Value} {c : List Li} (hv : RepC I v c) (hbig : sizeL (sidesL c) ≤ 10000) :
    Does Try.prog 41 [v] I [] (fun v I' δ' => RInts I' v (uvL [] (sidesL c)) ∧ δ' = []) := by
  have h5 : ∀ {I : Imm} {v : Value}, RepS I v (sidesL c) → Does Try.prog 67 [v] I [] (fun v I' δ' => RInts I' v (uvL [] (sidesL c)) ∧ δ' = []) := fun {I v} hs => by
    obtain ⟨sa, sc, rfl⟩ := hs.shape
    refine Does.intro Try.func67 rfl Try.ntmps67 rfl fun w0 => ?_
    refine code_seq ?_
    refine code_region ?_
    refine op_v (v_assign rfl) rfl ?_
    refine ops_nil ?_
    refine post_next ?_
    refine code_seq ?_
    refine code_region ?_
    refine op_v (v_move rfl) rfl ?_
    refine op_v (v_build bl47 rfl rfl) rfl ?_
    refine o_alloc z47 rfl rfl (fun b3 => ?_)
    refine o_store ty47 rfl rfl rfl rfl rfl (by repeat (first | exact Swap.here | apply Swap.there)) rfl ?_
    refine ops_nil ?_
    refine post_next ?_
    refine code_seq ?_
    refine code_region ?_
    refine op_v (v_loadA ty47 rfl rfl) rfl ?_
    refine op_call pl113 rfl rfl ((RVars2_does _ (.mk 0 (sidesL c)) (Nat.le_refl _) (by simp [T.size]; omega) _ _ (RepT.mk _ (.mk 0 (sidesL c)) (by unfold InR; simp [T.head]) hs))) Parts.none ?_
    rintro v7 I7 _ hI7 ⟨hv7, rfl⟩
    have e : uvT (.mk 0 (sidesL c)) = uvL [] (sidesL c) := by simp [uvT]
    rw [e] at hv7
    refine op_v (v_assign rfl) rfl ?_
    refine ops_nil ?_
    refine post_next ?_
    refine code_ret ?_
    refine post_ret (rs := [.tmp 2]) rfl (List.Perm.refl _) (.cons (.tmp rfl) .nil) (List.nil_sublist _) ?_
    exact ⟨hv7, rfl⟩
  refine Does.intro Try.func41 rfl Try.ntmps41 rfl fun w0 => ?_
  refine code_seq ?_
  refine code_region ?_
  refine op_v (v_assign rfl) rfl ?_
  refine ops_nil ?_
  refine post_next ?_
  refine code_seq ?_
  refine code_region ?_
  refine op_v (v_move rfl) rfl ?_
  refine op_call pl39 rfl rfl ((Terms_does hv)) Parts.none ?_
  rintro v4 I4 _ hI4 ⟨hs4, rfl⟩
  refine op_call pl67 rfl rfl ((h5 hs4)) Parts.none ?_
  rintro v5 I5 _ hI5 ⟨hv5, rfl⟩
  refine op_v (v_assign rfl) rfl ?_
  refine ops_nil ?_
  refine post_next ?_
  refine code_ret ?_
  refine post_ret (rs := [.tmp 2]) rfl (List.Perm.refl _) (.cons (.tmp rfl) .nil) (List.nil_sublist _) ?_
  exact ⟨hv5, rfl⟩
theorem lfew10_does {I : Imm} {vg va vb : Value} {gs : List Sy} {c d : List Li} (hg : RepG I vg gs) (ha : RepC I va c) (hb : RepC I vb d) :
    Does Try.prog 40 [vg, va, vb] I [] (fun v I' δ' => (∃ b, v = .bool b ∧ (b = true → FewC c ∧ FewC d)) ∧ δ' = []) := by
  refine Does.intro Try.func40 rfl Try.ntmps40 rfl fun w0 => ?_
  refine code_seq ?_
  refine code_region ?_
  refine op_v (v_assign rfl) rfl ?_
  refine ops_nil ?_
  refine post_next ?_
  refine code_seq ?_
  refine code_region ?_
  refine op_v (v_move rfl) rfl ?_
  refine op_call pl14 rfl rfl ((FewG_does hg)) Parts.none ?_
  rintro v8 I8 _ hI8 ⟨rfl, rfl⟩
  by_cases h9 : fewG gs = true
  · rw [h9]
    refine op_v (v_move rfl) rfl ?_
    first
      | (refine op_want rfl rfl ?_
         refine op_v (v_move rfl) rfl ?_)
      | (refine op_skip rfl rfl (by simp [undef]) rfl ?_)
    first
      | (refine op_want rfl rfl ?_
         refine op_call pl28 rfl rfl ((Few10_does (ha.mono Imm.leA))) Parts.none ?_
         rintro v11 I11 _ hI11 ⟨⟨b11, rfl, hb11⟩, rfl⟩)
      | (refine op_skip rfl rfl (by simp [undef]) rfl ?_)
    first | refine op_v (v_pickt rfl rfl) rfl ?_ | refine op_v (v_pickf rfl rfl) rfl ?_ | refine op_v (v_pickb rfl rfl rfl) rfl ?_
    by_cases h13 : b11 = true
    · subst h13
      refine op_v (v_move rfl) rfl ?_
      first
        | (refine op_want rfl rfl ?_
           refine op_v (v_move rfl) rfl ?_)
        | (refine op_skip rfl rfl (by simp [undef]) rfl ?_)
      first
        | (refine op_want rfl rfl ?_
           refine op_call pl28 rfl rfl ((Few10_does (hb.mono Imm.leA))) Parts.none ?_
           rintro v15 I15 _ hI15 ⟨⟨b15, rfl, hb15⟩, rfl⟩)
        | (refine op_skip rfl rfl (by simp [undef]) rfl ?_)
      first | refine op_v (v_pickt rfl rfl) rfl ?_ | refine op_v (v_pickf rfl rfl) rfl ?_ | refine op_v (v_pickb rfl rfl rfl) rfl ?_
      refine op_v (v_assign rfl) rfl ?_
      refine ops_nil ?_
      refine post_next ?_
      refine code_ret ?_
      refine post_ret (rs := [.tmp 6]) rfl (List.Perm.refl _) (.cons (.tmp rfl) .nil) (List.nil_sublist _) ?_
      exact ⟨⟨b15, rfl, fun h => ⟨hb11 rfl, hb15 h⟩⟩, rfl⟩
    · have h13' : b11 = false := by simpa using h13
      subst h13'
      refine op_v (v_move rfl) rfl ?_
      first
        | (refine op_want rfl rfl ?_
           refine op_v (v_move rfl) rfl ?_)
        | (refine op_skip rfl rfl (by simp [undef]) rfl ?_)
      first
        | (refine op_want rfl rfl ?_
           refine op_call pl28 rfl rfl ((Few10_does (hb.mono Imm.leA))) Parts.none ?_
           rintro v15 I15 _ hI15 ⟨⟨b15, rfl, hb15⟩, rfl⟩)
        | (refine op_skip rfl rfl (by simp [undef]) rfl ?_)
      first | refine op_v (v_pickt rfl rfl) rfl ?_ | refine op_v (v_pickf rfl rfl) rfl ?_ | refine op_v (v_pickb rfl rfl rfl) rfl ?_
      refine op_v (v_assign rfl) rfl ?_
      refine ops_nil ?_
      refine post_next ?_
      refine code_ret ?_
      refine post_ret (rs := [.tmp 6]) rfl (List.Perm.refl _) (.cons (.tmp rfl) .nil) (List.nil_sublist _) ?_
      exact ⟨⟨false, rfl, fun h => by cases h⟩, rfl⟩
  · have h9' : fewG gs = false := by simpa using h9
    rw [h9']
    refine op_v (v_move rfl) rfl ?_
    first
      | (refine op_want rfl rfl ?_
         refine op_v (v_move rfl) rfl ?_)
      | (refine op_skip rfl rfl (by simp [undef]) rfl ?_)
    first
      | (refine op_want rfl rfl ?_
         refine op_call pl28 rfl rfl ((Few10_does (ha.mono Imm.leA))) Parts.none ?_
         rintro v11 I11 _ hI11 ⟨⟨b11, rfl, hb11⟩, rfl⟩)
      | (refine op_skip rfl rfl (by simp [undef]) rfl ?_)
    first | refine op_v (v_pickt rfl rfl) rfl ?_ | refine op_v (v_pickf rfl rfl) rfl ?_ | refine op_v (v_pickb rfl rfl rfl) rfl ?_
    refine op_v (v_move rfl) rfl ?_
    first
      | (refine op_want rfl rfl ?_
         refine op_v (v_move rfl) rfl ?_)
      | (refine op_skip rfl rfl (by simp [undef]) rfl ?_)
    first
      | (refine op_want rfl rfl ?_
         refine op_call pl28 rfl rfl ((Few10_does (hb.mono Imm.leA))) Parts.none ?_
         rintro v15 I15 _ hI15 ⟨⟨b15, rfl, hb15⟩, rfl⟩)
      | (refine op_skip rfl rfl (by simp [undef]) rfl ?_)
    first | refine op_v (v_pickt rfl rfl) rfl ?_ | refine op_v (v_pickf rfl rfl) rfl ?_ | refine op_v (v_pickb rfl rfl rfl) rfl ?_
    refine op_v (v_assign rfl) rfl ?_
    refine ops_nil ?_
    refine post_next ?_
    refine code_ret ?_
    refine post_ret (rs := [.tmp 6]) rfl (List.Perm.refl _) (.cons (.tmp rfl) .nil) (List.nil_sublist _) ?_
    exact ⟨⟨false, rfl, fun h => by cases h⟩, rfl⟩
/-! ### plain: without variables -/
theorem uniL_nil {acc l : List Int} (h : uniL acc l = []) : acc = [] ∧ l = [] := by
  have key : ∀ v, ¬ (v ∈ acc ∨ v ∈ l) := fun v hv => by
    have := (uniL_mem acc l v).2 hv
    rw [h] at this; cases this
  exact ⟨List.eq_nil_iff_forall_not_mem.2 fun v hv => key v (.inl hv), List.eq_nil_iff_forall_not_mem.2 fun v hv => key v (.inr hv)⟩
theorem hdsL_eq2 : ∀ ts : List T, (visL ts).map (·.2.head) = ts.flatMap hds
  | [] => rfl
  | t :: r => by
    rw [visL, List.map_append, hdsL_eq2 r, List.flatMap_cons]
    congr 1
    unfold hds
    rw [visT_eq, visT_eq]; rfl
theorem hds_eq2 (h : Int) (ts : List T) : hds (.mk h ts) = h :: ts.flatMap hds := by
  have : hds (.mk h ts) = h :: (visL ts).map (·.2.head) := by unfold hds; rw [visT_eq]; rfl
  rw [this, hdsL_eq2]
mutual
theorem uvT_nil : ∀ (t : T), uvT t = [] → ∀ k ∈ hds t, 0 ≤ k
  | .mk h ts, e => by
    simp only [uvT] at e
    have h1 := uvL_nil ts _ e
    intro k hk
    rw [hds_eq2, List.mem_cons] at hk
    rcases hk with rfl | hk
    · by_cases q : k < 0
      · rw [if_pos q] at h1; simp at h1
      · omega
    · exact h1.2 k hk
theorem uvL_nil : ∀ (ts : List T) (acc : List Int), uvL acc ts = [] → acc = [] ∧ ∀ k ∈ ts.flatMap hds, 0 ≤ k
  | [], acc, e => ⟨by simpa [uvL] using e, fun k hk => by simp at hk⟩
  | t :: r, acc, e => by
    simp only [uvL] at e
    obtain ⟨h1, h2⟩ := uvL_nil r _ e
    obtain ⟨h3, h4⟩ := uniL_nil h1
    have h5 := uvT_nil t h4
    refine ⟨h3, fun k hk => ?_⟩
    rw [List.flatMap_cons] at hk
    rcases List.mem_append.1 hk with h | h
    · exact h5 k h
    · exact h2 k h
end
def GrC (c : List Li) : Prop := ∀ x ∈ c, (∀ k ∈ hds x.l, 0 ≤ k) ∧ ∀ k ∈ hds x.r, 0 ≤ k
theorem GrC_of {c : List Li} (h : uvL [] (sidesL c) = []) : GrC c := fun x hx => by
  have := (uvL_nil _ _ h).2
  have hm : ∀ t, t = x.l ∨ t = x.r → ∀ k ∈ hds t, 0 ≤ k := fun t ht k hk => this k (List.mem_flatMap.2 ⟨t, List.mem_flatMap.2 ⟨x, hx, by rcases ht with rfl | rfl <;> simp⟩, hk⟩)
  exact ⟨hm _ (.inl rfl), hm _ (.inr rfl)⟩
theorem varsP_none {t : T} (h : ∀ k ∈ hds t, 0 ≤ k) : varsP (partsT 1 t) = [] := by
  have key : ∀ l : List (Nat × T), (∀ x ∈ l, 0 ≤ x.2.head) → varsP l = [] := by
    intro l
    induction l using snoc_ind with
    | h0 => intro _; rfl
    | h1 l y ih =>
      intro hl
      rw [varsP_snoc, ih fun x hx => hl x (List.mem_append_left _ hx), if_neg]
      intro q
      have := hl y (by simp)
      omega
  refine key _ fun x hx => ?_
  have h2 : x.2 ∈ (partsT 1 t).map (·.2) := List.mem_map_of_mem (f := fun x : Nat × T => x.2) hx
  rw [snd_T 1 true t] at h2
  obtain ⟨y, hy, e⟩ := List.mem_map.1 h2
  rw [← e]
  exact h _ (List.mem_map_of_mem (f := fun x : Bool × T => x.2.head) hy)
theorem varsC_none {c : List Li} (h : GrC c) : varsC c = [] := by
  have key : ∀ ts : List T, (∀ t ∈ ts, varsP (partsT 1 t) = []) → varsGo [] ts = [] := by
    intro ts
    induction ts with
    | nil => intro _; rfl
    | cons t r ih =>
      intro ht
      show varsGo (uniL [] (varsP (partsT 1 t))) r = []
      rw [ht t (List.mem_cons_self ..)]
      exact ih fun u hu => ht u (List.mem_cons_of_mem _ hu)
  refine key _ fun t ht => ?_
  obtain ⟨x, hx, e⟩ := List.mem_flatMap.1 ht
  simp at e
  rcases e with rfl | rfl
  · exact varsP_none (h x hx).1
  · exact varsP_none (h x hx).2
theorem mulG_X (gs : List Sy) (a b : List T) : mulG gs a b = mulX (fun x y => decide (stT gs x y = 1)) a b := by
  have h1 : ∀ l m : List T, rsL l m = rsX l m := fun l => by
    induction l with
    | nil => intro m; rfl
    | cons t r ih => intro m; simp only [rsL, rsX, ih]
  unfold mulG mulX overL overX
  simp only [h1]
theorem stT_ord (gs : List Sy) : OrdX (fun x y : T => decide (stT gs x y = 1)) (OkG gs) where
  irr := fun x => by rw [stT_self]; rfl
  tr := fun x y z hx hy hz h k => by
    rw [decide_eq_true_eq] at *
    exact stT_trans _ _ _ _ (Nat.le_refl _) hx hy hz h k
theorem gtL_total {gs : List Sy} {x y : Li} (hx : OkL gs x ∧ GrC [x]) (hy : OkL gs y ∧ GrC [y]) (h : sameL x y = false) : gtL gs x y = true ∨ gtL gs y x = true := by
  have hgx := hx.2 x (by simp)
  have hgy := hy.2 y (by simp)
  have hrow : ∀ {z : Li}, OkL gs z → ((∀ k ∈ hds z.l, 0 ≤ k) ∧ ∀ k ∈ hds z.r, 0 ≤ k) → ∀ t ∈ rowL z, OkG gs t ∧ ∀ k ∈ hds t, 0 ≤ k := fun hz hg t ht => by
    rcases rowL_mem ht with rfl | rfl
    · exact ⟨hz.1, hg.1⟩
    · exact ⟨hz.2, hg.2⟩
  have hne : mulG gs (rowL x) (rowL y) ≠ 0 := fun e => by
    rw [rowL_perm.1 (mulG_zero.1 e)] at h; cases h
  have hn2 : mulG gs (rowL x) (rowL y) ≠ 2 := by
    rw [mulG_X]
    refine mulX_total (Ok := fun t => OkG gs t ∧ ∀ k ∈ hds t, 0 ≤ k) ⟨(stT_ord gs).irr, fun x y z hx hy hz => (stT_ord gs).tr x y z hx.1 hy.1 hz.1⟩ (fun s t hs ht hst => ?_) (hrow hx.1 hgx) (hrow hy.1 hgy)
    have h2 := stT_ground _ s t (Nat.le_refl _) hs.1 ht.1 hs.2 ht.2
    have hv := stT_vals gs s t
    have h0 : stT gs s t ≠ 0 := fun e => hst (stT_zero hs.1 ht.1 e)
    have hneg := stT_neg gs s t
    rcases hv with e | e | e | e
    · exact absurd e h0
    · left; rw [decide_eq_true_eq]; exact e
    · right; rw [decide_eq_true_eq, hneg, e]; rfl
    · exact absurd e h2
  rw [mulG_X] at hne hn2
  unfold gtL
  rw [decide_eq_true_eq, decide_eq_true_eq, mulG_X, mulG_X]
  rcases mulX_vals (g := fun x y => decide (stT gs x y = 1)) (rowL x) (rowL y) with e | e | e | e
  · exact absurd e hne
  · exact .inl e
  · exact .inr (mulX_less e)
  · exact absurd e hn2
theorem cmpC_ground {gs : List Sy} {c d : List Li} (hc : ∀ x ∈ c, OkL gs x) (hd : ∀ x ∈ d, OkL gs x) (hgc : GrC c) (hgd : GrC d) : cmpC gs c d ≠ 2 := by
  refine mulX_total (Ok := fun k => OkL gs k ∧ GrC [k] ∧ canL k = k) ⟨(gtL_ord gs).irr, fun x y z hx hy hz => (gtL_ord gs).tr x y z hx.1 hy.1 hz.1⟩ (fun x y hx hy hxy => ?_) ?_ ?_
  · refine gtL_total ⟨hx.1, hx.2.1⟩ ⟨hy.1, hy.2.1⟩ ?_
    cases h : sameL x y
    · rfl
    · exact absurd (by rw [← hx.2.2, ← hy.2.2]; exact canL_eq.2 h) hxy
  all_goals
    intro k hk
    obtain ⟨x, hx, rfl⟩ := List.mem_map.1 hk
    refine ⟨OkL.can (by first | exact hc x hx | exact hd x hx), fun y hy => ?_, canL_eq.2 (sameL_symm (canL_same x))⟩
    simp at hy; subst hy
    have hgx : (∀ k ∈ hds x.l, 0 ≤ k) ∧ ∀ k ∈ hds x.r, 0 ≤ k := by first | exact hgc x hx | exact hgd x hx
    unfold canL
    split
    · exact ⟨hgx.2, hgx.1⟩
    · exact hgx
end Go.Proofs.Ytdbadicpbmndbaa
/- Walks: the example of the chapter on literals; a literal oriented: the statement. -/
set_option linter.unusedVariables false
set_option linter.unusedSimpArgs false
set_option linter.unnecessarySimpa false
/- short -/
namespace Go.Proofs.Ytdbadicpbmndbaa
open Go Lg

end Go.Proofs.Ytdbadicpbmndbaa
/- Walks: terms put into a literal, by the program. -/
set_option linter.unusedVariables false
set_option linter.unusedSimpArgs false
set_option linter.unnecessarySimpa false
/- short -/
namespace Go.Proofs.Ytdbadicpbmndbaa
open Go Lg

/-- what Apply answers, exactly -/
def OutE (bs : List Bi) (t : T) (e : Int) (u : T) : Prop := ((chkB bs ∧ chkT t = 0) ∧ e = chkT (sbT bs t) ∧ u = (if chkT (sbT bs t) = 0 then sbT bs t else zeroT)) ∨ (¬ (chkB bs ∧ chkT t = 0) ∧ e = 1 ∧ u = zeroT)
theorem OutE.eq {bs : List Bi} {t : T} {e f : Int} {u w : T} (h : OutE bs t e u) (k : OutE bs t f w) : e = f ∧ u = w := by
  rcases h with ⟨h1, h2, h3⟩ | ⟨h1, h2, h3⟩ <;> rcases k with ⟨k1, k2, k3⟩ | ⟨k1, k2, k3⟩
  · exact ⟨by rw [h2, k2], by rw [h3, k3]⟩
  · exact absurd h1 k1
  · exact absurd k1 h1
  · exact ⟨by rw [h2, k2], by rw [h3, k3]⟩
theorem OutE.size {bs : List Bi} {t : T} {e : Int} {u : T} (h : OutE bs t e u) : u.size ≤ 400 := by
  rcases h with ⟨h1, h2, h3⟩ | ⟨h1, h2, h3⟩
  · subst h3; split
    · exact chkT_size (by assumption)
    · exact (by decide : zeroT.size ≤ 400)
  · subst h3; exact (by decide : zeroT.size ≤ 400)
theorem ApplyE_does {I : Imm} {vs v : Value} {bs : List Bi} {t : T} (hs : RepB I vs bs) (hv : RepT I v t) (hbs : ∀ b ∈ bs, b.2.size ≤ 500) (ht : t.size ≤ 500) :
    Does Try.prog 120 [vs, v] I [] (fun v I' δ' => (∃ e u r, v = .tuple #[r, .int .i64 e] ∧ RepT I' r u ∧ OutE bs t e u) ∧ δ' = []) := by
  obtain ⟨a0, c0, rfl, hr0⟩ := hv.shape
  obtain ⟨sa, sc, rfl⟩ := hs.shape
  have hsz : (sbT bs t).size ≤ 1000000000 := by have := sbT_size (m := 500) (by omega) hbs t; omega
  refine Does.intro Try.func120 rfl Try.ntmps120 rfl fun w0 => ?_
  refine code_seq ?_
  refine code_region ?_
  refine o_box rfl rfl rfl (fun b3 => ?_)
  refine o_alloc z47 rfl rfl (fun b4 => ?_)
  refine op_v (v_assign rfl) rfl ?_
  refine ops_nil ?_
  refine post_next ?_
  refine code_seq ?_
  refine code_seq ?_
  refine code_region ?_
  refine op_v (v_move rfl) rfl ?_
  refine op_call pl154 rfl rfl ((SCheck_does hs (fun b hb => by have := hbs b hb; omega))) Parts.none ?_
  rintro v7 I7 _ hI7 ⟨⟨e7, rfl, he7⟩, rfl⟩
  by_cases h8 : e7 ≠ 0
  · first | refine op_v (v_cmptA rfl rfl rfl) rfl ?_ | refine op_v (v_cmpfA rfl rfl rfl) rfl ?_ | refine op_v (v_cmp rfl rfl rfl) rfl ?_
    refine op_v (v_move rfl) rfl ?_
    first
      | (refine op_want rfl rfl ?_
         refine op_v (v_loadA ty47 rfl rfl) rfl ?_)
      | (refine op_skip rfl rfl (by simp [undef]) rfl ?_)
    first
      | (refine op_want rfl rfl ?_
         refine op_call pl105 rfl rfl ((TCheck_does (hv.mono Imm.leA) (by omega))) Parts.none ?_
         rintro v11 I11 _ hI11 ⟨rfl, rfl⟩)
      | (refine op_skip rfl rfl (by simp [undef]) rfl ?_)
    first
      | (refine op_want rfl rfl ?_
         first | refine op_v (v_cmptA rfl rfl rfl) rfl ?_ | refine op_v (v_cmpfA rfl rfl rfl) rfl ?_ | refine op_v (v_cmp rfl rfl rfl) rfl ?_)
      | (refine op_skip rfl rfl (by simp [undef]) rfl ?_)
    first | refine op_v (v_pickt rfl rfl) rfl ?_ | refine op_v (v_pickf rfl rfl) rfl ?_ | refine op_v (v_pickb rfl rfl rfl) rfl ?_
    refine ops_nil ?_
    refine post_next ?_
    refine code_cond_t rfl ?_
    refine code_seq ?_
    refine code_region ?_
    refine op_v (v_build bl47 rfl rfl) rfl ?_
    refine o_store ty47 rfl rfl rfl rfl rfl (by repeat (first | exact Swap.here | apply Swap.there)) rfl ?_
    refine op_v (v_assign rfl) rfl ?_
    refine ops_nil ?_
    refine post_next ?_
    refine code_ret ?_
    refine post_ret_then ?_
    refine post_ret (rs := [.cell 4 47, .tmp 5]) rfl (List.Perm.refl _) (.cons (.cell rfl ty47 (by repeat (first | exact Has.here | apply Has.there)) rfl) (.cons (.tmp rfl) .nil)) (List.nil_sublist _) ?_
    exact ⟨⟨1, zeroT, _, rfl, zeroT_rep _, .inr ⟨fun hh => by rcases he7 with h | h; omega; exact h.2 hh.1, rfl, rfl⟩⟩, rfl⟩
  · first | refine op_v (v_cmptA rfl rfl rfl) rfl ?_ | refine op_v (v_cmpfA rfl rfl rfl) rfl ?_ | refine op_v (v_cmp rfl rfl rfl) rfl ?_
    refine op_v (v_move rfl) rfl ?_
    first
      | (refine op_want rfl rfl ?_
         refine op_v (v_loadA ty47 rfl rfl) rfl ?_)
      | (refine op_skip rfl rfl (by simp [undef]) rfl ?_)
    first
      | (refine op_want rfl rfl ?_
         refine op_call pl105 rfl rfl ((TCheck_does (hv.mono Imm.leA) (by omega))) Parts.none ?_
         rintro v11 I11 _ hI11 ⟨rfl, rfl⟩)
      | (refine op_skip rfl rfl (by simp [undef]) rfl ?_)
    by_cases h12 : chkT t ≠ 0
    · first
        | (refine op_want rfl rfl ?_
           first | refine op_v (v_cmptA rfl rfl rfl) rfl ?_ | refine op_v (v_cmpfA rfl rfl rfl) rfl ?_ | refine op_v (v_cmp rfl rfl rfl) rfl ?_)
        | (refine op_skip rfl rfl (by simp [undef]) rfl ?_)
      first | refine op_v (v_pickt rfl rfl) rfl ?_ | refine op_v (v_pickf rfl rfl) rfl ?_ | refine op_v (v_pickb rfl rfl rfl) rfl ?_
      refine ops_nil ?_
      refine post_next ?_
      refine code_cond_t rfl ?_
      refine code_seq ?_
      refine code_region ?_
      refine op_v (v_build bl47 rfl rfl) rfl ?_
      refine o_store ty47 rfl rfl rfl rfl rfl (by repeat (first | exact Swap.here | apply Swap.there)) rfl ?_
      refine op_v (v_assign rfl) rfl ?_
      refine ops_nil ?_
      refine post_next ?_
      refine code_ret ?_
      refine post_ret_then ?_
      refine post_ret (rs := [.cell 4 47, .tmp 5]) rfl (List.Perm.refl _) (.cons (.cell rfl ty47 (by repeat (first | exact Has.here | apply Has.there)) rfl) (.cons (.tmp rfl) .nil)) (List.nil_sublist _) ?_
      exact ⟨⟨1, zeroT, _, rfl, zeroT_rep _, .inr ⟨fun hh => h12 hh.2, rfl, rfl⟩⟩, rfl⟩
    · first
        | (refine op_want rfl rfl ?_
           first | refine op_v (v_cmptA rfl rfl rfl) rfl ?_ | refine op_v (v_cmpfA rfl rfl rfl) rfl ?_ | refine op_v (v_cmp rfl rfl rfl) rfl ?_)
        | (refine op_skip rfl rfl (by simp [undef]) rfl ?_)
      first | refine op_v (v_pickt rfl rfl) rfl ?_ | refine op_v (v_pickf rfl rfl) rfl ?_ | refine op_v (v_pickb rfl rfl rfl) rfl ?_
      refine ops_nil ?_
      refine post_next ?_
      refine code_cond_f rfl ?_
      refine code_skip ?_
      refine post_next ?_
      refine code_seq ?_
      refine code_draw (.fl 0 (.fl 1 (.ef 2 (.fl 3 (.ef 4 (.ef 5 (.fl 6 (.fl 7 (.ef 8 (.ef 9 .done)))))))))) (fun _ => _) mixed (by kernel_rfl) (by kernel_rfl) (fun _ => (List.Sublist.refl _)) ?_
      refine e_fl rfl rfl (fun hs_ => PF.mk rfl (v_loadA ty47 rfl rfl) hs_) ?_
      refine e_fl rfl rfl (fun hs_ => PF.mk rfl (v_move rfl) hs_) ?_
      refine e_eff rfl (by intro cs b hc; cases hc) (by intro c hc; cases hc) ?_
      refine op_call pl155 rfl rfl ((open_does (hs.mono Imm.leA))) Parts.none ?_
      rintro v17 I17 _ hI17 ⟨b17, xs17, rfl, rfl, hM⟩
      refine ops_nil ?_
      refine e_next rfl side_allA ?_
      refine e_fl rfl rfl (fun hs_ => PF.mk rfl (v_makeFunc rfl rfl) hs_) ?_
      refine e_eff rfl (by intro cs b hc; cases hc) (by intro c hc; cases hc) ?_
      refine op_call pl144 rfl rfl ((rebuild_does (I0 := I17) (fun J v u hJ hu => FDoes.ofFirst (firsts := [_]) pl156 (of_does hu (hM.mono hJ))) t.size t (Nat.le_refl _) _ _ (Imm.le_refl _) (hv.mono Imm.leA))) (Parts.one Del.here) ?_
      rintro v19 I19 _ hI19 ⟨hv19, rfl⟩
      change RepT I19 v19 (sbT bs t) at hv19
      refine ops_nil ?_
      refine e_next rfl (side_nil (by kernel_rfl)) ?_
      refine e_eff rfl (by intro cs b hc; cases hc) (by intro c hc; cases hc) ?_
      refine op_call pl143 rfl rfl ((end_does hv19 hsz)) Parts.none ?_
      rintro v20 I20 _ hI20 ⟨⟨u20, rfl, hv20⟩, rfl⟩
      obtain ⟨a20, c20, rfl, _⟩ := hv20.shape
      refine ops_nil ?_
      refine e_next rfl (side_nil (by kernel_rfl)) ?_
      refine e_fl rfl rfl (fun hs_ => PF.mk rfl (v_extract rfl rfl) hs_) ?_
      refine e_fl rfl rfl (fun hs_ => PF.mk rfl (v_extract rfl rfl) hs_) ?_
      refine e_eff rfl (by intro cs b hc; cases hc) (by intro c hc; cases hc) ?_
      refine o_store ty47 rfl rfl rfl rfl rfl (by repeat (first | exact Swap.here | apply Swap.there)) rfl ?_
      refine ops_nil ?_
      refine e_next_ (side_nil (by kernel_rfl)) ?_
      refine e_eff rfl (by intro cs b hc; cases hc) (by intro c hc; cases hc) ?_
      refine op_v (v_assign rfl) rfl ?_
      refine ops_nil ?_
      refine e_next rfl (side_nil (by kernel_rfl)) ?_
      refine e_done ?_
      refine post_next ?_
      refine code_ret ?_
      refine post_ret (rs := [.cell 4 47, .tmp 5]) rfl (List.Perm.refl _) (.cons (.cell rfl ty47 (by repeat (first | exact Has.here | apply Has.there)) rfl) (.cons (.tmp rfl) .nil)) (List.nil_sublist _) ?_
      have he0 : e7 = 0 := by omega
      have hcb : chkB bs := by rcases he7 with h | h; exact h.2; omega
      exact ⟨⟨chkT (sbT bs t), _, _, rfl, hv20, .inl ⟨⟨hcb, by omega⟩, rfl, rfl⟩⟩, rfl⟩
def OutL (bs : List Bi) (x : Li) (e : Int) (y : Li) : Prop := ∃ e1 u1, OutE bs x.l e1 u1 ∧ ((e1 ≠ 0 ∧ e = e1 ∧ y = zeroLi) ∨ (e1 = 0 ∧ ∃ e2 u2, OutE bs x.r e2 u2 ∧ ((e2 ≠ 0 ∧ e = e2 ∧ y = zeroLi) ∨ (e2 = 0 ∧ e = 0 ∧ y = ⟨x.neg, u1, u2⟩))))
theorem OutL.eq {bs : List Bi} {x y z : Li} {e f : Int} (h : OutL bs x e y) (k : OutL bs x f z) : e = f ∧ y = z := by
  obtain ⟨e1, u1, h1, h⟩ := h
  obtain ⟨f1, w1, k1, k⟩ := k
  obtain ⟨rfl, rfl⟩ := h1.eq k1
  rcases h with ⟨h2, rfl, rfl⟩ | ⟨h2, e2, u2, h3, h⟩ <;> rcases k with ⟨k2, rfl, rfl⟩ | ⟨k2, f2, w2, k3, k⟩
  · exact ⟨rfl, rfl⟩
  · exact absurd k2 h2
  · exact absurd h2 k2
  · obtain ⟨rfl, rfl⟩ := h3.eq k3
    rcases h with ⟨h4, rfl, rfl⟩ | ⟨h4, rfl, rfl⟩ <;> rcases k with ⟨k4, rfl, rfl⟩ | ⟨k4, rfl, rfl⟩
    · exact ⟨rfl, rfl⟩
    · exact absurd k4 h4
    · exact absurd h4 k4
    · exact ⟨rfl, rfl⟩
theorem OutL.size {bs : List Bi} {x y : Li} {e : Int} (h : OutL bs x e y) : y.l.size ≤ 1000000000 ∧ y.r.size ≤ 1000000000 := by
  have hz : zeroT.size ≤ 400 := by decide
  obtain ⟨e1, u1, h1, ⟨_, _, rfl⟩ | ⟨_, e2, u2, h3, ⟨_, _, rfl⟩ | ⟨_, _, rfl⟩⟩⟩ := h
  · exact ⟨Nat.le_trans hz (by omega), Nat.le_trans hz (by omega)⟩
  · exact ⟨Nat.le_trans hz (by omega), Nat.le_trans hz (by omega)⟩
  · have := h1.size; have := h3.size; exact ⟨by show u1.size ≤ _; omega, by show u2.size ≤ _; omega⟩
theorem LApply_does {I : Imm} {vs va : Value} {bs : List Bi} {x : Li} (hs : RepB I vs bs) (ha : RepL I va x) (hbs : ∀ b ∈ bs, b.2.size ≤ 500) (h1 : x.l.size ≤ 500) (h2 : x.r.size ≤ 500) :
    Does Try.prog 83 [vs, va] I [] (fun v I' δ' => (∃ e y r, v = .tuple #[r, .int .i64 e] ∧ RepL I' r y ∧ OutL bs x e y) ∧ δ' = []) := by
  obtain ⟨la, lc, ra, rc, rfl, hl, hr⟩ := ha
  obtain ⟨sa, sc, rfl⟩ := hs.shape
  refine Does.intro Try.func83 rfl Try.ntmps83 rfl fun w0 => ?_
  refine code_seq ?_
  refine code_region ?_
  refine o_box rfl rfl rfl (fun b3 => ?_)
  refine o_alloc z49 rfl rfl (fun b4 => ?_)
  refine op_v (v_assign rfl) rfl ?_
  refine ops_nil ?_
  refine post_next ?_
  refine code_seq ?_
  refine code_region ?_
  refine op_v (v_move rfl) rfl ?_
  first | refine op_v (v_fieldB 1 Try.underlying49 rfl rfl fz47 rfl) rfl ?_ | refine op_v (v_fieldI 1 Try.underlying49 rfl rfl fz47 rfl (by assumption)) rfl ?_ | refine op_v (v_field Try.underlying49 rfl fz47 rfl rfl) rfl ?_
  refine op_v (v_loadA ty47 rfl rfl) rfl ?_
  refine op_call pl120 rfl rfl ((ApplyE_does (hs.mono Imm.leA) (hl.mono Imm.leA) hbs h1)) Parts.none ?_
  rintro v13 I13 _ hI13 ⟨⟨e1, u1, r1, rfl, hr1, ho1⟩, rfl⟩
  obtain ⟨ua, uc, rfl, _⟩ := hr1.shape
  refine op_v (v_move rfl) rfl ?_
  refine op_v (v_extract rfl rfl) rfl ?_
  refine op_v (v_extract rfl rfl) rfl ?_
  refine o_alloc z47 rfl rfl (fun b6 => ?_)
  refine o_store ty47 rfl rfl rfl rfl rfl (by repeat (first | exact Swap.here | apply Swap.there)) rfl ?_
  refine op_v (v_assign rfl) rfl ?_
  refine ops_nil ?_
  refine post_next ?_
  refine code_seq ?_
  refine code_seq ?_
  refine code_region ?_
  refine op_v (v_move rfl) rfl ?_
  by_cases q1 : e1 ≠ 0
  · first | refine op_v (v_cmptA rfl rfl rfl) rfl ?_ | refine op_v (v_cmpfA rfl rfl rfl) rfl ?_ | refine op_v (v_cmp rfl rfl rfl) rfl ?_
    refine ops_nil ?_
    refine post_next ?_
    refine code_cond_t rfl ?_
    refine code_seq ?_
    refine code_region ?_
    refine op_v (v_build bl49 rfl rfl) rfl ?_
    refine op_v (v_move rfl) rfl ?_
    refine o_store ty49 rfl rfl rfl rfl rfl (by repeat (first | exact Swap.here | apply Swap.there)) rfl ?_
    refine op_v (v_assign rfl) rfl ?_
    refine ops_nil ?_
    refine post_next ?_
    refine code_ret ?_
    refine post_ret_then ?_
    refine post_ret (rs := [.cell 4 49, .tmp 5]) rfl (List.Perm.refl _) (.cons (.cell rfl ty49 (by repeat (first | exact Has.here | apply Has.there)) rfl) (.cons (.tmp rfl) .nil)) (List.nil_sublist _) ?_
    exact ⟨⟨e1, zeroLi, _, rfl, ⟨none, 0, none, 0, rfl, zeroT_rep _, zeroT_rep _⟩, e1, u1, ho1, .inl ⟨q1, rfl, rfl⟩⟩, rfl⟩
  · first | refine op_v (v_cmptA rfl rfl rfl) rfl ?_ | refine op_v (v_cmpfA rfl rfl rfl) rfl ?_ | refine op_v (v_cmp rfl rfl rfl) rfl ?_
    refine ops_nil ?_
    refine post_next ?_
    refine code_cond_f rfl ?_
    refine code_skip ?_
    refine post_next ?_
    refine code_seq ?_
    refine code_region ?_
    refine op_v (v_move rfl) rfl ?_
    first | refine op_v (v_fieldB 3 Try.underlying49 rfl rfl fz47 rfl) rfl ?_ | refine op_v (v_fieldI 3 Try.underlying49 rfl rfl fz47 rfl (by assumption)) rfl ?_ | refine op_v (v_field Try.underlying49 rfl fz47 rfl rfl) rfl ?_
    refine op_v (v_loadA ty47 rfl rfl) rfl ?_
    refine op_call pl120 rfl rfl ((ApplyE_does (hs.mono Imm.leA) (hr.mono Imm.leA) hbs h2)) Parts.none ?_
    rintro v24 I24 _ hI24 ⟨⟨e2, u2, r2, rfl, hr2, ho2⟩, rfl⟩
    obtain ⟨wa, wc, rfl, _⟩ := hr2.shape
    refine op_v (v_move rfl) rfl ?_
    refine op_v (v_extract rfl rfl) rfl ?_
    refine op_v (v_extract rfl rfl) rfl ?_
    refine o_alloc z47 rfl rfl (fun b8 => ?_)
    refine o_store ty47 rfl rfl rfl rfl rfl (by repeat (first | exact Swap.here | apply Swap.there)) rfl ?_
    refine op_v (v_assign rfl) rfl ?_
    refine ops_nil ?_
    refine post_next ?_
    refine code_seq ?_
    refine code_seq ?_
    refine code_region ?_
    refine op_v (v_move rfl) rfl ?_
    by_cases q2 : e2 ≠ 0
    · first | refine op_v (v_cmptA rfl rfl rfl) rfl ?_ | refine op_v (v_cmpfA rfl rfl rfl) rfl ?_ | refine op_v (v_cmp rfl rfl rfl) rfl ?_
      refine ops_nil ?_
      refine post_next ?_
      refine code_cond_t rfl ?_
      refine code_seq ?_
      refine code_region ?_
      refine op_v (v_build bl49 rfl rfl) rfl ?_
      refine op_v (v_move rfl) rfl ?_
      refine o_store ty49 rfl rfl rfl rfl rfl (by repeat (first | exact Swap.here | apply Swap.there)) rfl ?_
      refine op_v (v_assign rfl) rfl ?_
      refine ops_nil ?_
      refine post_next ?_
      refine code_ret ?_
      refine post_ret_then ?_
      refine post_ret (rs := [.cell 4 49, .tmp 5]) rfl (List.Perm.refl _) (.cons (.cell rfl ty49 (by repeat (first | exact Has.here | apply Has.there)) rfl) (.cons (.tmp rfl) .nil)) (List.nil_sublist _) ?_
      exact ⟨⟨e2, zeroLi, _, rfl, ⟨none, 0, none, 0, rfl, zeroT_rep _, zeroT_rep _⟩, e1, u1, ho1, .inr ⟨by omega, e2, u2, ho2, .inl ⟨q2, rfl, rfl⟩⟩⟩, rfl⟩
    · first | refine op_v (v_cmptA rfl rfl rfl) rfl ?_ | refine op_v (v_cmpfA rfl rfl rfl) rfl ?_ | refine op_v (v_cmp rfl rfl rfl) rfl ?_
      refine ops_nil ?_
      refine post_next ?_
      refine code_cond_f rfl ?_
      refine code_skip ?_
      refine post_next ?_
      refine code_seq ?_
      refine code_region ?_
      first | refine op_v (v_fieldB 0 Try.underlying49 rfl rfl fz4 rfl) rfl ?_ | refine op_v (v_fieldI 0 Try.underlying49 rfl rfl fz4 rfl (by assumption)) rfl ?_ | refine op_v (v_field Try.underlying49 rfl fz4 rfl rfl) rfl ?_
      refine op_v (v_loadA ty4 rfl rfl) rfl ?_
      refine op_v (v_loadA ty47 rfl rfl) rfl ?_
      refine op_v (v_loadA ty47 rfl rfl) rfl ?_
      refine op_v (v_build bl49 rfl rfl) rfl ?_
      refine o_store ty49 rfl rfl rfl rfl rfl (by repeat (first | exact Swap.here | apply Swap.there)) rfl ?_
      refine op_v (v_assign rfl) rfl ?_
      refine ops_nil ?_
      refine post_next ?_
      refine code_ret ?_
      refine post_ret (rs := [.cell 4 49, .tmp 5]) rfl (List.Perm.refl _) (.cons (.cell rfl ty49 (by repeat (first | exact Has.here | apply Has.there)) rfl) (.cons (.tmp rfl) .nil)) (List.nil_sublist _) ?_
      exact ⟨⟨0, ⟨x.neg, u1, u2⟩, _, rfl, ⟨ua, uc, wa, wc, rfl, hr1.mono Imm.leA, hr2.mono Imm.leA⟩, e1, u1, ho1, .inr ⟨by omega, e2, u2, ho2, .inr ⟨by omega, rfl, rfl⟩⟩⟩, rfl⟩
end Go.Proofs.Ytdbadicpbmndbaa
/- Which literals are maximal: plainly, and walks: terms put into clauses, Maximal. -/
set_option linter.unusedVariables false
set_option linter.unusedSimpArgs false
set_option linter.unnecessarySimpa false
/- short -/
namespace Go.Proofs.Ytdbadicpbmndbaa
open Go Lg

/-! ### terms put into a clause -/
def OutC (bs : List Bi) (c : List Li) (e : Int) (ys : List Li) : Prop :=
  (32 < c.length ∧ e = 2 ∧ ys = []) ∨ (c.length ≤ 32 ∧ ((∃ (k : Nat) (hk : k < c.length) (zs : List Li) (y : Li), (zs.length = k ∧ ∀ i (h : i < k) (h2 : i < zs.length), OutL bs c[i] 0 zs[i]) ∧ OutL bs c[k] e y ∧ e ≠ 0 ∧ ys = []) ∨ (e = 0 ∧ ys.length = c.length ∧ ∀ i (h : i < c.length) (h2 : i < ys.length), OutL bs c[i] 0 ys[i])))
theorem OutC.eq {bs : List Bi} {c ys zs : List Li} {e f : Int} (h : OutC bs c e ys) (k : OutC bs c f zs) : e = f ∧ ys = zs := by
  rcases h with ⟨h1, rfl, rfl⟩ | ⟨h1, h⟩ <;> rcases k with ⟨k1, rfl, rfl⟩ | ⟨k1, k⟩
  · exact ⟨rfl, rfl⟩
  · omega
  · omega
  · rcases h with ⟨i, hi, us, y, ⟨hul, hu⟩, hy, he, rfl⟩ | ⟨rfl, hl, hall⟩ <;> rcases k with ⟨j, hj, ws, z, ⟨hwl, hw⟩, hz, hf, rfl⟩ | ⟨rfl, hm, hbll⟩
    · rcases Nat.lt_trichotomy i j with q | q | q
      · exact absurd ((hy.eq (hw i q (by omega))).1) he
      · subst q; exact ⟨(hy.eq hz).1, rfl⟩
      · exact absurd ((hz.eq (hu j q (by omega))).1) hf
    · exact absurd ((hy.eq (hbll i hi (by omega))).1) he
    · exact absurd ((hz.eq (hall j hj (by omega))).1) hf
    · exact ⟨rfl, List.ext_getElem (by omega) fun i h1 h2 => ((hall i (by omega) h1).eq (hbll i (by omega) h2)).2⟩
theorem OutC.sm {bs : List Bi} {c ys : List Li} {e : Int} (h : OutC bs c e ys) : SmC ys := by
  rcases h with ⟨_, _, rfl⟩ | ⟨_, ⟨_, _, _, _, _, _, _, rfl⟩ | ⟨_, hl, hall⟩⟩
  · intro x hx; cases hx
  · intro x hx; cases hx
  · intro x hx
    obtain ⟨i, hi, rfl⟩ := List.getElem_of_mem hx
    exact (hall i (by omega) hi).size
theorem CApply_does {I : Imm} {vs v : Value} {bs : List Bi} {c : List Li} (hs : RepB I vs bs) (hv : RepC I v c) (hbs : ∀ b ∈ bs, b.2.size ≤ 500) (hsz : ∀ x ∈ c, x.l.size ≤ 500 ∧ x.r.size ≤ 500) :
    Does Try.prog 36 [vs, v] I [] (fun v I' δ' => (∃ e ys r, v = .tuple #[r, .int .i64 e] ∧ RepC I' r ys ∧ OutC bs c e ys) ∧ δ' = []) := by
  obtain ⟨sa, sc, rfl⟩ := hs.shape
  obtain ⟨ad, c0, xs, rfl, hc, hb, hcells, hrow⟩ := hv
  refine Does.intro Try.func36 rfl Try.ntmps36 rfl fun w0 => ?_
  refine code_seq ?_
  refine code_region ?_
  refine op_v (v_assign rfl) rfl ?_
  refine op_v (v_assign rfl) rfl ?_
  refine ops_nil ?_
  refine post_next ?_
  refine code_seq ?_
  refine code_seq ?_
  refine code_region ?_
  refine op_v (v_move rfl) rfl ?_
  refine op_v (v_len Try.underlying26 rfl) rfl ?_
  by_cases h13 : 32 < c.length
  · refine op_v (v_cmpt rfl rfl rfl (by omega)) rfl ?_
    refine ops_nil ?_
    refine post_next ?_
    refine code_cond_t rfl ?_
    refine code_seq ?_
    refine code_region ?_
    refine op_v (v_assign rfl) rfl ?_
    refine op_v (v_assign rfl) rfl ?_
    refine ops_nil ?_
    refine post_next ?_
    refine code_ret ?_
    refine post_ret_then ?_
    refine post_ret (rs := [.tmp 4, .tmp 5]) rfl (List.Perm.refl _) (.cons (.tmp rfl) (.cons (.tmp rfl) .nil)) (List.nil_sublist _) ?_
    exact ⟨⟨2, [], _, rfl, RepE.nil, .inl ⟨h13, rfl, rfl⟩⟩, rfl⟩
  · refine op_v (v_cmpf rfl rfl rfl (by omega)) rfl ?_
    refine ops_nil ?_
    refine post_next ?_
    refine code_cond_f rfl ?_
    refine code_skip ?_
    refine post_next ?_
    refine code_seq ?_
    refine code_region ?_
    refine op_v (v_assign rfl) rfl ?_
    refine ops_nil ?_
    refine post_next ?_
    refine code_seq ?_
    refine code_seq ?_
    refine code_region ?_
    refine op_v (v_move rfl) rfl ?_
    refine op_v (v_len Try.underlying26 rfl) rfl ?_
    refine op_v (v_move rfl) rfl ?_
    refine ops_nil ?_
    refine post_next ?_
    refine code_block ?_
    refine CodeJ.view (View.nilRow 49 5) ?_
    refine code_loop (fun m σ' I' δ' => ∃ (k : Nat) (A : Option Addr) (c' : Nat) (zs : List Value) (ys : List Li), m = c.length - k ∧ k ≤ c.length ∧ σ' = [(0, .slice sa bs.length sc), (6, .slice A ys.length c'), (14, .slice ad c.length c0), (15, .int .i64 c.length), (16, .int .i64 k)] ∧ I.le I' ∧ δ' = [cRow A c' ys.length zs] ∧ RowE LitE I' zs ys ∧ ys.length = k ∧ ∀ i (h : i < k) (h2 : i < ys.length) (h3 : i < c.length), OutL bs c[i] 0 ys[i]) c.length [(0, .slice sa bs.length sc), (6, .slice none 0 0), (14, .slice ad c.length c0), (15, .int .i64 c.length), (16, .int .i64 (0 : Nat))] ⟨0, none, 0, [], [], rfl, Nat.zero_le _, rfl, Imm.le_refl _, rfl, rfl, rfl, fun i h => by omega⟩ ⟨rfl, rfl, rfl, rfl, rfl, trivial⟩ ?_
    rintro m _ I0 _ ⟨k, A, c', zs, ys, rfl, hk, rfl, hI0, rfl, hzs, hyl, hall⟩
    refine code_seq ?_
    refine code_region ?_
    first | refine op_v (v_cmptA rfl rfl rfl) rfl ?_ | refine op_v (v_cmpfA rfl rfl rfl) rfl ?_ | refine op_v (v_cmp rfl rfl rfl) rfl ?_
    refine ops_nil ?_
    refine post_next ?_
    refine code_seq ?_
    refine code_cond rfl (fun hc1 => ?_) (fun hc1 => ?_)
    · have hlt : k < c.length := by simpa using hc1
      obtain ⟨vs, ⟨la, lc, ra, rc, rfl, hl, hr⟩, hat⟩ := hrow.cellsAt hcells hlt
      have hs1 := hat.isSome
      have hsk := hsz _ (List.getElem_mem hlt)
      refine code_skip ?_
      refine post_next ?_
      refine code_seq ?_
      refine code_block ?_
      refine code_seq ?_
      refine code_region ?_
      first | refine op_v (v_indexA Try.underlying26 sz49 rfl rfl) rfl ?_ | refine op_v (v_indexIA Try.underlying26 sz49 rfl rfl) rfl ?_
      first | refine op_v (v_loadI0 ty49 (hat.mono hI0) rfl rfl rfl) rfl ?_ | refine op_v (v_loadI ty49 (hat.mono hI0) rfl rfl rfl) rfl ?_
      refine o_alloc z49 rfl rfl (fun b8 => ?_)
      refine o_store ty49 rfl rfl rfl rfl rfl (by repeat (first | exact Swap.here | apply Swap.there)) rfl ?_
      refine ops_nil ?_
      refine post_next ?_
      refine code_seq ?_
      refine code_region ?_
      refine op_v (v_move rfl) rfl ?_
      refine op_v (v_loadA ty49 rfl rfl) rfl ?_
      refine op_call pl83 rfl rfl ((LApply_does (x := c[k]) (hs.mono Imm.leA) ⟨la, lc, ra, rc, rfl, hl.mono Imm.leA, hr.mono Imm.leA⟩ hbs hsk.1 hsk.2)) Parts.none ?_
      rintro v23 I23 _ hI23 ⟨⟨e, y, r23, rfl, hr23, ho⟩, rfl⟩
      obtain ⟨ma, mc, na, nc, rfl, hml, hmr⟩ := hr23
      refine op_v (v_move rfl) rfl ?_
      refine op_v (v_extract rfl rfl) rfl ?_
      refine op_v (v_extract rfl rfl) rfl ?_
      refine o_alloc z49 rfl rfl (fun b9 => ?_)
      refine o_store ty49 rfl rfl rfl rfl rfl (by repeat (first | exact Swap.here | apply Swap.there)) rfl ?_
      refine op_v (v_assign rfl) rfl ?_
      refine ops_nil ?_
      refine post_next ?_
      refine code_seq ?_
      refine code_seq ?_
      refine code_region ?_
      refine op_v (v_move rfl) rfl ?_
      by_cases h27 : e ≠ 0
      · first | refine op_v (v_cmptA rfl rfl rfl) rfl ?_ | refine op_v (v_cmpfA rfl rfl rfl) rfl ?_ | refine op_v (v_cmp rfl rfl rfl) rfl ?_
        refine ops_nil ?_
        refine post_next ?_
        refine code_cond_t rfl ?_
        refine code_seq ?_
        refine code_region ?_
        refine op_v (v_move rfl) rfl ?_
        refine op_v (v_assign rfl) rfl ?_
        refine op_v (v_assign rfl) rfl ?_
        refine ops_nil ?_
        refine post_next ?_
        refine code_ret ?_
        refine post_ret_then ?_
        refine post_ret_block ?_
        refine post_ret_then ?_
        refine post_ret_then ?_
        refine post_ret_block ?_
        refine post_ret_then ?_
        refine post_ret (rs := [.tmp 4, .tmp 5]) rfl (List.Perm.refl _) (.cons (.tmp rfl) (.cons (.tmp rfl) .nil)) (List.nil_sublist _) ?_
        exact ⟨⟨e, [], _, rfl, RepE.nil, .inr ⟨by omega, .inl ⟨k, hlt, ys, y, ⟨hyl, fun i h h2 => hall i h h2 (by omega)⟩, ho, h27, rfl⟩⟩⟩, rfl⟩
      · have he : e = 0 := Classical.not_not.1 h27
        subst he
        first | refine op_v (v_cmptA rfl rfl rfl) rfl ?_ | refine op_v (v_cmpfA rfl rfl rfl) rfl ?_ | refine op_v (v_cmp rfl rfl rfl) rfl ?_
        refine ops_nil ?_
        refine post_next ?_
        refine code_cond_f rfl ?_
        refine code_skip ?_
        refine post_next ?_
        refine code_region ?_
        refine op_v (v_move rfl) rfl ?_
        refine op_v (v_loadA ty49 rfl rfl) rfl ?_
        refine o_buildSlice (xs := [(Go.Operand.tmp 30)]) Try.underlying26 bs49 rfl rfl rfl rfl rfl (fun b31 => ?_)
        refine o_append Try.underlying26 bs49 rfl rfl rfl (fun v' => by repeat (first | exact Swap.here | apply Swap.there)) (Src.ofRow (by repeat (first | exact Has.here | apply Has.there)) rfl) (by first | rfl | omega | simp) (by simp [cat, cellsL, Value.oneCell']) (by omega) (by omega) (fun a32 c32 => ?_)
        have hl2 : ys.length + 1 = (ys ++ [y]).length := by simp
        refine op_v (v_assign rfl) rfl ?_
        refine ops_nil ?_
        refine post_out ?_
        refine post_next ?_
        refine code_region ?_
        first | refine op_v (v_addb rfl rfl rfl (by omega)) rfl ?_ | refine op_v (v_add rfl rfl) rfl ?_
        refine op_v (v_move rfl) rfl ?_
        refine ops_nil ?_
        refine PostJ.view ((View.drop Del.here).trans ((View.drop Del.here).trans (View.drop Del.here))) ?_
        refine post_again (c.length - (k + 1)) [(0, .slice sa bs.length sc), (6, .slice a32 (ys.length + 1) c32), (14, .slice ad c.length c0), (15, .int .i64 c.length), (16, .int .i64 (k + 1 : Nat))] (by omega) ⟨k + 1, a32, c32, zs ++ liC y ma mc na nc, ys ++ [y], rfl, hlt, by rw [hl2], Imm.leA, by simp only [cRow, ← hl2]; rfl, (hzs.mono Imm.leA).app (RowE.single ⟨ma, mc, na, nc, rfl, hml.mono Imm.leA, hmr.mono Imm.leA⟩), by simp; exact hyl, fun i h h2 h3 => ?_⟩ ⟨rfl, rfl, rfl, rfl, rfl, trivial⟩
        rcases Nat.lt_or_ge i k with q | q
        · rw [List.getElem_append_left (by omega)]; exact hall i q (by omega) h3
        · have e : i = k := by omega
          subst e
          rw [List.getElem_append_right (by omega)]; simp only [hyl, Nat.sub_self, List.getElem_cons_zero]; exact ho
    · have hge : k = c.length := by simp at hc1; omega
      refine code_exit ?_
      refine post_exit_then ?_
      refine post_exit_then ?_
      refine post_exit ?_
      refine post_next ?_
      refine code_seq ?_
      refine code_region ?_
      refine OpsJ.freezeRow Del.here ?_
      rintro I34 a34 c34 hI34 hq hc34 hl34 hcells34
      cases hq
      refine op_v (v_move rfl) rfl ?_
      refine op_v (v_assign rfl) rfl ?_
      refine op_v (v_assign rfl) rfl ?_
      refine ops_nil ?_
      refine post_next ?_
      refine code_ret ?_
      refine post_ret (rs := [.tmp 4, .tmp 5]) rfl (List.Perm.refl _) (.cons (.tmp rfl) (.cons (.tmp rfl) .nil)) (List.nil_sublist _) ?_
      exact ⟨⟨0, ys, _, rfl, ⟨_, _, _, rfl, hc34, by omega, hcells34, hzs.mono hI34⟩, .inr ⟨by omega, .inr ⟨rfl, by omega, fun i h h2 => hall i (by omega) h2 h⟩⟩⟩, rfl⟩
/-! ### which ones are maximal -/
theorem chkC_litE {gs : List Sy} {c : List Li} (h : chkC gs c = 0) {x y : Li} (hx : x ∈ c) (hy : y ∈ c) : litE gs x y = 0 := by
  unfold litE; rw [if_neg (by rw [(chkC_ok h).2.2 x hx]; simp)]; exact (chkC_ok h).2.2 y hy
def undB (gs : List Sy) (x y : Li) (s : Bool) : Bool := !decide (mulG gs (rowL x) (rowL y) = 1) && !(s && decide (mulG gs (rowL x) (rowL y) = 0))
def topG (gs : List Sy) (c : List Li) (i : Nat) (s : Bool) : Bool := (List.range c.length).all fun k => decide (k = i) || undB gs (c.getD k zeroLi) (c.getD i zeroLi) s
theorem topG_iff {gs : List Sy} {c : List Li} {i : Nat} {s : Bool} (hi : i < c.length) : topG gs c i s = true ↔ ∀ k (h : k < c.length), k = i ∨ undB gs c[k] c[i] s = true := by
  unfold topG
  rw [List.all_eq_true]
  constructor
  · intro h k hk
    have := h k (List.mem_range.2 hk)
    rw [Bool.or_eq_true, decide_eq_true_eq] at this
    rw [List.getD_eq_getElem?_getD, List.getD_eq_getElem?_getD, List.getElem?_eq_getElem hk, List.getElem?_eq_getElem hi] at this
    exact this
  · intro h k hk
    have hk := List.mem_range.1 hk
    rw [Bool.or_eq_true, decide_eq_true_eq]
    rw [List.getD_eq_getElem?_getD, List.getD_eq_getElem?_getD, List.getElem?_eq_getElem hk, List.getElem?_eq_getElem hi]
    exact h k hk
theorem top1_does {I : Imm} {b4 b5 b6 b7 : Nat} {vg : Value} {ad : Option Addr} {c0 : Nat} {gs : List Sy} {c : List Li} {s : Bool} {i k : Nat} (hg : RepG I vg gs) (hv : RepC I (.slice ad c.length c0) c) (hsm : SmC c) (hchk : chkC gs c = 0) (hi : i < c.length) (hk : k < c.length) :
    Does Try.prog 135 [.int .i64 k, .pointer (some ⟨b4, 0, none⟩), .pointer (some ⟨b5, 0, none⟩), .pointer (some ⟨b6, 0, none⟩), .pointer (some ⟨b7, 0, none⟩)] I [.box b7 4 [.bool s], .box b6 3 [.int .i64 i], .box b5 26 [.slice ad c.length c0], .box b4 22 [vg]]
      (fun v _ δ' => v = .bool (undB gs c[k] c[i] s) ∧ δ' = [.box b7 4 [.bool s], .box b6 3 [.int .i64 i], .box b5 26 [.slice ad c.length c0], .box b4 22 [vg]]) := by
  obtain ⟨_, _, xs, hq, hc, hb, hcells, hrow⟩ := id hv
  cases hq
  obtain ⟨vk, ⟨la, lc, ra, rc, rfl, hkl, hkr⟩, hatk⟩ := hrow.cellsAt hcells hk
  obtain ⟨vi, ⟨ma, mc, na, nc, rfl, hil, hir⟩, hati⟩ := hrow.cellsAt hcells hi
  have hs1 := hatk.isSome
  have hsk := hsm.at hk
  have hsi := hsm.at hi
  refine Does.intro Try.func135 rfl Try.ntmps135 rfl fun w0 => ?_
  refine code_seq ?_
  refine code_region ?_
  refine op_v (v_assign rfl) rfl ?_
  refine ops_nil ?_
  refine post_next ?_
  refine code_seq ?_
  refine code_draw (.fl 0 (.fl 1 (.fl 2 (.fl 3 (.fl 4 (.fl 5 (.fl 6 (.fl 7 (.fl 8 (.ef 9 (.fl 10 (.fl 11 (.fl 12 (.ef 13 (.ef 14 .done))))))))))))))) (fun _ => _) mixed (by kernel_rfl) (by kernel_rfl) (fun _ => (List.Sublist.refl _)) ?_
  refine e_fl rfl rfl (fun hs_ => PF.mk rfl (v_loadA ty22 rfl rfl) hs_) ?_
  refine e_fl rfl rfl (fun hs_ => PF.mk rfl (v_loadA ty26 rfl rfl) hs_) ?_
  refine e_fl rfl rfl (fun hs_ => PF.mk rfl (v_move rfl) hs_) ?_
  first | refine e_fl rfl rfl (fun hs_ => PF.mk rfl (v_indexA Try.underlying26 sz49 rfl rfl) hs_) ?_ | refine e_fl rfl rfl (fun hs_ => PF.mk rfl (v_indexIA Try.underlying26 sz49 rfl rfl) hs_) ?_
  first | refine e_fl rfl rfl (fun hs_ => PF.mk rfl (v_loadI0 ty49 (hatk) rfl rfl rfl) hs_) ?_ | refine e_fl rfl rfl (fun hs_ => PF.mk rfl (v_loadI ty49 (hatk) rfl rfl rfl) hs_) ?_
  refine e_fl rfl rfl (fun hs_ => PF.mk rfl (v_loadA ty26 rfl rfl) hs_) ?_
  refine e_fl rfl rfl (fun hs_ => PF.mk rfl (v_loadA ty3 rfl rfl) hs_) ?_
  first | refine e_fl rfl rfl (fun hs_ => PF.mk rfl (v_indexA Try.underlying26 sz49 rfl rfl) hs_) ?_ | refine e_fl rfl rfl (fun hs_ => PF.mk rfl (v_indexIA Try.underlying26 sz49 rfl rfl) hs_) ?_
  first | refine e_fl rfl rfl (fun hs_ => PF.mk rfl (v_loadI0 ty49 (hati) rfl rfl rfl) hs_) ?_ | refine e_fl rfl rfl (fun hs_ => PF.mk rfl (v_loadI ty49 (hati) rfl rfl rfl) hs_) ?_
  refine e_eff rfl (by intro cs b hc; cases hc) (by intro c hc; cases hc) ?_
  refine op_call pl49 rfl rfl ((LCompare_does (x := c[k]) (y := c[i]) hg ⟨la, lc, ra, rc, rfl, hkl, hkr⟩ ⟨ma, mc, na, nc, rfl, hil, hir⟩ hsk.1 hsk.2 hsi.1 hsi.2)) Parts.none ?_
  rintro v19 I19 _ hI19 ⟨rfl, rfl⟩
  rw [chkC_litE hchk (List.getElem_mem hk) (List.getElem_mem hi), if_pos rfl]
  refine ops_nil ?_
  refine e_next rfl side_allA ?_
  refine e_fl rfl rfl (fun hs_ => PF.mk rfl (v_move rfl) hs_) ?_
  refine e_fl rfl rfl (fun hs_ => PF.mk rfl (v_extract rfl rfl) hs_) ?_
  refine e_fl rfl rfl (fun hs_ => PF.mk rfl (v_extract rfl rfl) hs_) ?_
  refine e_eff rfl (by intro cs b hc; cases hc) (by intro c hc; cases hc) ?_
  refine op_v (v_assign rfl) rfl ?_
  refine ops_nil ?_
  refine e_next rfl side_allA ?_
  refine e_eff rfl (by intro cs b hc; cases hc) (by intro c hc; cases hc) ?_
  refine op_v (v_assign rfl) rfl ?_
  refine ops_nil ?_
  refine e_next rfl (side_nil (by kernel_rfl)) ?_
  refine e_done ?_
  refine post_next ?_
  refine code_seq ?_
  refine code_region ?_
  refine op_v (v_move rfl) rfl ?_
  first | refine op_v (v_cmptA rfl rfl rfl) rfl ?_ | refine op_v (v_cmpfA rfl rfl rfl) rfl ?_ | refine op_v (v_cmp rfl rfl rfl) rfl ?_
  refine op_v (v_move rfl) rfl ?_
  first
    | (refine op_want rfl rfl ?_
       refine op_v (v_move rfl) rfl ?_)
    | (refine op_skip rfl rfl (by simp [undef]) rfl ?_)
  by_cases h26 : mulG gs (rowL c[k]) (rowL c[i]) ≠ 1
  · first
      | (refine op_want rfl rfl ?_
         first | refine op_v (v_cmptA rfl rfl rfl) rfl ?_ | refine op_v (v_cmpfA rfl rfl rfl) rfl ?_ | refine op_v (v_cmp rfl rfl rfl) rfl ?_)
      | (refine op_skip rfl rfl (by simp [undef]) rfl ?_)
    first | refine op_v (v_pickt rfl rfl) rfl ?_ | refine op_v (v_pickf rfl rfl) rfl ?_ | refine op_v (v_pickb rfl rfl rfl) rfl ?_
    refine op_v (v_move rfl) rfl ?_
    by_cases hst : s = true
    · subst hst
      first
        | (refine op_want rfl rfl ?_
           refine op_v (v_loadA ty4 rfl rfl) rfl ?_)
        | (refine op_skip rfl rfl (by simp [undef]) rfl ?_)
      first
        | (refine op_want rfl rfl ?_
           refine op_v (v_move rfl) rfl ?_)
        | (refine op_skip rfl rfl (by simp [undef]) rfl ?_)
      first
        | (refine op_want rfl rfl ?_
           refine op_v (v_move rfl) rfl ?_)
        | (refine op_skip rfl rfl (by simp [undef]) rfl ?_)
      by_cases h32 : mulG gs (rowL c[k]) (rowL c[i]) = 0
      · first
          | (refine op_want rfl rfl ?_
             first | refine op_v (v_cmptA rfl rfl rfl) rfl ?_ | refine op_v (v_cmpfA rfl rfl rfl) rfl ?_ | refine op_v (v_cmp rfl rfl rfl) rfl ?_)
          | (refine op_skip rfl rfl (by simp [undef]) rfl ?_)
        first
          | (refine op_want rfl rfl ?_
             first | refine op_v (v_pickt rfl rfl) rfl ?_ | refine op_v (v_pickf rfl rfl) rfl ?_ | refine op_v (v_pickb rfl rfl rfl) rfl ?_)
          | (refine op_skip rfl rfl (by simp [undef]) rfl ?_)
        first
          | (refine op_want rfl rfl ?_
             refine op_v (v_not rfl) rfl ?_)
          | (refine op_skip rfl rfl (by simp [undef]) rfl ?_)
        first | refine op_v (v_pickt rfl rfl) rfl ?_ | refine op_v (v_pickf rfl rfl) rfl ?_ | refine op_v (v_pickb rfl rfl rfl) rfl ?_
        refine op_v (v_assign rfl) rfl ?_
        refine ops_nil ?_
        refine post_next ?_
        refine code_ret ?_
        refine post_ret (rs := [.tmp 6]) rfl (List.Perm.refl _) (.cons (.tmp rfl) .nil) (List.Sublist.refl _) ?_
        exact ⟨by rw [show undB gs c[k] c[i] true = false from by simp [undB, h32]]; rfl, rfl⟩
      · first
          | (refine op_want rfl rfl ?_
             first | refine op_v (v_cmptA rfl rfl rfl) rfl ?_ | refine op_v (v_cmpfA rfl rfl rfl) rfl ?_ | refine op_v (v_cmp rfl rfl rfl) rfl ?_)
          | (refine op_skip rfl rfl (by simp [undef]) rfl ?_)
        first
          | (refine op_want rfl rfl ?_
             first | refine op_v (v_pickt rfl rfl) rfl ?_ | refine op_v (v_pickf rfl rfl) rfl ?_ | refine op_v (v_pickb rfl rfl rfl) rfl ?_)
          | (refine op_skip rfl rfl (by simp [undef]) rfl ?_)
        first
          | (refine op_want rfl rfl ?_
             refine op_v (v_not rfl) rfl ?_)
          | (refine op_skip rfl rfl (by simp [undef]) rfl ?_)
        first | refine op_v (v_pickt rfl rfl) rfl ?_ | refine op_v (v_pickf rfl rfl) rfl ?_ | refine op_v (v_pickb rfl rfl rfl) rfl ?_
        refine op_v (v_assign rfl) rfl ?_
        refine ops_nil ?_
        refine post_next ?_
        refine code_ret ?_
        refine post_ret (rs := [.tmp 6]) rfl (List.Perm.refl _) (.cons (.tmp rfl) .nil) (List.Sublist.refl _) ?_
        exact ⟨by rw [show undB gs c[k] c[i] true = true from by simp [undB, h26, h32]]; rfl, rfl⟩
    · have hst' : s = false := by simpa using hst
      subst hst'
      first
        | (refine op_want rfl rfl ?_
           refine op_v (v_loadA ty4 rfl rfl) rfl ?_)
        | (refine op_skip rfl rfl (by simp [undef]) rfl ?_)
      first
        | (refine op_want rfl rfl ?_
           refine op_v (v_move rfl) rfl ?_)
        | (refine op_skip rfl rfl (by simp [undef]) rfl ?_)
      first
        | (refine op_want rfl rfl ?_
           refine op_v (v_move rfl) rfl ?_)
        | (refine op_skip rfl rfl (by simp [undef]) rfl ?_)
      first
        | (refine op_want rfl rfl ?_
           first | refine op_v (v_cmptA rfl rfl rfl) rfl ?_ | refine op_v (v_cmpfA rfl rfl rfl) rfl ?_ | refine op_v (v_cmp rfl rfl rfl) rfl ?_)
        | (refine op_skip rfl rfl (by simp [undef]) rfl ?_)
      first
        | (refine op_want rfl rfl ?_
           first | refine op_v (v_pickt rfl rfl) rfl ?_ | refine op_v (v_pickf rfl rfl) rfl ?_ | refine op_v (v_pickb rfl rfl rfl) rfl ?_)
        | (refine op_skip rfl rfl (by simp [undef]) rfl ?_)
      first
        | (refine op_want rfl rfl ?_
           refine op_v (v_not rfl) rfl ?_)
        | (refine op_skip rfl rfl (by simp [undef]) rfl ?_)
      first | refine op_v (v_pickt rfl rfl) rfl ?_ | refine op_v (v_pickf rfl rfl) rfl ?_ | refine op_v (v_pickb rfl rfl rfl) rfl ?_
      refine op_v (v_assign rfl) rfl ?_
      refine ops_nil ?_
      refine post_next ?_
      refine code_ret ?_
      refine post_ret (rs := [.tmp 6]) rfl (List.Perm.refl _) (.cons (.tmp rfl) .nil) (List.Sublist.refl _) ?_
      exact ⟨by rw [show undB gs c[k] c[i] false = true from by simp [undB, h26]]; rfl, rfl⟩
  · first
      | (refine op_want rfl rfl ?_
         first | refine op_v (v_cmptA rfl rfl rfl) rfl ?_ | refine op_v (v_cmpfA rfl rfl rfl) rfl ?_ | refine op_v (v_cmp rfl rfl rfl) rfl ?_)
      | (refine op_skip rfl rfl (by simp [undef]) rfl ?_)
    first | refine op_v (v_pickt rfl rfl) rfl ?_ | refine op_v (v_pickf rfl rfl) rfl ?_ | refine op_v (v_pickb rfl rfl rfl) rfl ?_
    refine op_v (v_move rfl) rfl ?_
    first
      | (refine op_want rfl rfl ?_
         refine op_v (v_loadA ty4 rfl rfl) rfl ?_)
      | (refine op_skip rfl rfl (by simp [undef]) rfl ?_)
    first
      | (refine op_want rfl rfl ?_
         refine op_v (v_move rfl) rfl ?_)
      | (refine op_skip rfl rfl (by simp [undef]) rfl ?_)
    first
      | (refine op_want rfl rfl ?_
         refine op_v (v_move rfl) rfl ?_)
      | (refine op_skip rfl rfl (by simp [undef]) rfl ?_)
    first
      | (refine op_want rfl rfl ?_
         first | refine op_v (v_cmptA rfl rfl rfl) rfl ?_ | refine op_v (v_cmpfA rfl rfl rfl) rfl ?_ | refine op_v (v_cmp rfl rfl rfl) rfl ?_)
      | (refine op_skip rfl rfl (by simp [undef]) rfl ?_)
    first
      | (refine op_want rfl rfl ?_
         first | refine op_v (v_pickt rfl rfl) rfl ?_ | refine op_v (v_pickf rfl rfl) rfl ?_ | refine op_v (v_pickb rfl rfl rfl) rfl ?_)
      | (refine op_skip rfl rfl (by simp [undef]) rfl ?_)
    first
      | (refine op_want rfl rfl ?_
         refine op_v (v_not rfl) rfl ?_)
      | (refine op_skip rfl rfl (by simp [undef]) rfl ?_)
    first | refine op_v (v_pickt rfl rfl) rfl ?_ | refine op_v (v_pickf rfl rfl) rfl ?_ | refine op_v (v_pickb rfl rfl rfl) rfl ?_
    refine op_v (v_assign rfl) rfl ?_
    refine ops_nil ?_
    refine post_next ?_
    refine code_ret ?_
    refine post_ret (rs := [.tmp 6]) rfl (List.Perm.refl _) (.cons (.tmp rfl) .nil) (List.Sublist.refl _) ?_
    exact ⟨by have e : mulG gs (rowL c[k]) (rowL c[i]) = 1 := Classical.not_not.1 h26; rw [show undB gs c[k] c[i] s = false from by simp [undB, e]]; rfl, rfl⟩
theorem top_does {I : Imm} {vg va : Value} {gs : List Sy} {c : List Li} {s : Bool} {i : Nat} (hg : RepG I vg gs) (hv : RepC I va c) (hsm : SmC c) (hchk : chkC gs c = 0) (hi : i < c.length) :
    Does Try.prog 96 [vg, va, .int .i64 i, .bool s] I [] (fun v _ δ' => v = .bool (topG gs c i s) ∧ δ' = []) := by
  obtain ⟨ga, gc, hsg⟩ := hg.shape
  subst hsg
  obtain ⟨ad, c0, hsh⟩ := RepE.shape hv
  subst hsh
  have hb := hv.small
  refine Does.intro Try.func96 rfl Try.ntmps96 rfl fun w0 => ?_
  refine code_seq ?_
  refine code_region ?_
  refine o_box rfl rfl rfl (fun b4 => ?_)
  refine o_box rfl rfl rfl (fun b5 => ?_)
  refine o_box rfl rfl rfl (fun b6 => ?_)
  refine o_box rfl rfl rfl (fun b7 => ?_)
  refine op_v (v_assign rfl) rfl ?_
  refine ops_nil ?_
  refine post_next ?_
  refine code_seq ?_
  refine code_region ?_
  refine op_v (v_makeFunc rfl rfl) rfl ?_
  refine op_v (v_assign rfl) rfl ?_
  refine ops_nil ?_
  refine post_next ?_
  refine code_seq ?_
  refine code_seq ?_
  refine code_region ?_
  refine op_v (v_loadA ty26 rfl rfl) rfl ?_
  refine op_v (v_len Try.underlying26 rfl) rfl ?_
  refine op_v (v_move rfl) rfl ?_
  refine ops_nil ?_
  refine post_next ?_
  refine code_block ?_
  refine code_loop (fun m σ' I' δ' => ∃ k : Nat, m = c.length - k ∧ k ≤ c.length ∧ σ' = [(6, .pointer (some ⟨b6, 0, none⟩)), (9, .func (.func 135) #[] #[.pointer (some ⟨b4, 0, none⟩), .pointer (some ⟨b5, 0, none⟩), .pointer (some ⟨b6, 0, none⟩), .pointer (some ⟨b7, 0, none⟩)]), (13, .int .i64 c.length), (14, .int .i64 k)] ∧ I.le I' ∧ δ' = [.box b7 4 [.bool s], .box b6 3 [.int .i64 i], .box b5 26 [.slice ad c.length c0], .box b4 22 [.slice ga gs.length gc]] ∧ ∀ j (h : j < c.length), j < k → j = i ∨ undB gs c[j] c[i] s = true) c.length [(6, .pointer (some ⟨b6, 0, none⟩)), (9, .func (.func 135) #[] #[.pointer (some ⟨b4, 0, none⟩), .pointer (some ⟨b5, 0, none⟩), .pointer (some ⟨b6, 0, none⟩), .pointer (some ⟨b7, 0, none⟩)]), (13, .int .i64 c.length), (14, .int .i64 (0 : Nat))] ⟨0, rfl, Nat.zero_le _, rfl, Imm.le_refl _, rfl, fun j _ h => by omega⟩ ⟨rfl, rfl, rfl, rfl, trivial⟩ ?_
  rintro m _ I0 _ ⟨k, rfl, hk, rfl, hI0, rfl, hall⟩
  refine code_seq ?_
  refine code_region ?_
  first | refine op_v (v_cmptA rfl rfl rfl) rfl ?_ | refine op_v (v_cmpfA rfl rfl rfl) rfl ?_ | refine op_v (v_cmp rfl rfl rfl) rfl ?_
  refine ops_nil ?_
  refine post_next ?_
  refine code_seq ?_
  refine code_cond rfl (fun hc0 => ?_) (fun hc0 => ?_)
  · have hlt : k < c.length := by simpa using hc0
    refine code_skip ?_
    refine post_next ?_
    refine code_seq ?_
    refine code_block ?_
    refine code_seq ?_
    refine code_region ?_
    refine op_v (v_move rfl) rfl ?_
    refine op_v (v_assign rfl) rfl ?_
    refine ops_nil ?_
    refine post_next ?_
    refine code_seq ?_
    refine code_region ?_
    refine op_v (v_move rfl) rfl ?_
    refine op_v (v_loadA ty3 rfl rfl) rfl ?_
    by_cases h19 : k ≠ i
    · first | refine op_v (v_cmptA rfl rfl rfl) rfl ?_ | refine op_v (v_cmpfA rfl rfl rfl) rfl ?_ | refine op_v (v_cmp rfl rfl rfl) rfl ?_
      refine op_v (v_move rfl) rfl ?_
      first
        | (refine op_want rfl rfl ?_
           refine op_v (v_move rfl) rfl ?_)
        | (refine op_skip rfl rfl (by simp [undef]) rfl ?_)
      first
        | (refine op_want rfl rfl ?_
           refine op_v (v_move rfl) rfl ?_)
        | (refine op_skip rfl rfl (by simp [undef]) rfl ?_)
      first
        | (refine op_want rfl rfl ?_
           refine op_fcall rfl rfl rfl ((FDoes.ofFunc (args := [_]) (caps := [_, _, _, _]) pl135 (top1_does (hg.mono hI0) (hv.mono hI0) hsm hchk hi hlt))) Parts.all ?_
           rintro v23 I23 _ hI23 ⟨rfl, rfl⟩
           rw [List.append_nil])
        | (refine op_skip rfl rfl (by simp [undef]) rfl ?_)
      by_cases hu : undB gs c[k] c[i] s = true
      · rw [hu]
        first
          | (refine op_want rfl rfl ?_
             refine op_v (v_not rfl) rfl ?_)
          | (refine op_skip rfl rfl (by simp [undef]) rfl ?_)
        first | refine op_v (v_pickt rfl rfl) rfl ?_ | refine op_v (v_pickf rfl rfl) rfl ?_ | refine op_v (v_pickb rfl rfl rfl) rfl ?_
        refine ops_nil ?_
        refine post_next ?_
        refine code_cond_f rfl ?_
        refine code_skip ?_
        refine post_out ?_
        refine post_next ?_
        refine code_region ?_
        first | refine op_v (v_addb rfl rfl rfl (by omega)) rfl ?_ | refine op_v (v_add rfl rfl) rfl ?_
        refine op_v (v_move rfl) rfl ?_
        refine ops_nil ?_
        refine post_again (c.length - (k + 1)) [(6, .pointer (some ⟨b6, 0, none⟩)), (9, .func (.func 135) #[] #[.pointer (some ⟨b4, 0, none⟩), .pointer (some ⟨b5, 0, none⟩), .pointer (some ⟨b6, 0, none⟩), .pointer (some ⟨b7, 0, none⟩)]), (13, .int .i64 c.length), (14, .int .i64 (k + 1 : Nat))] (by omega) ⟨k + 1, rfl, hlt, rfl, Imm.leA, rfl, fun j h hj => ?_⟩ ⟨rfl, rfl, rfl, rfl, trivial⟩
        rcases Nat.lt_or_ge j k with q | q
        · exact hall j h q
        · right
          have e : j = k := by omega
          subst e; exact hu
      · have hu' : undB gs c[k] c[i] s = false := by simpa using hu
        rw [hu']
        first
          | (refine op_want rfl rfl ?_
             refine op_v (v_not rfl) rfl ?_)
          | (refine op_skip rfl rfl (by simp [undef]) rfl ?_)
        first | refine op_v (v_pickt rfl rfl) rfl ?_ | refine op_v (v_pickf rfl rfl) rfl ?_ | refine op_v (v_pickb rfl rfl rfl) rfl ?_
        refine ops_nil ?_
        refine post_next ?_
        refine code_cond_t rfl ?_
        refine code_seq ?_
        refine code_region ?_
        refine op_v (v_assign rfl) rfl ?_
        refine ops_nil ?_
        refine post_next ?_
        refine code_ret ?_
        refine post_ret_block ?_
        refine post_ret_then ?_
        refine post_ret_then ?_
        refine post_ret_block ?_
        refine post_ret_then ?_
        refine post_ret (rs := [.tmp 8]) rfl (List.Perm.refl _) (.cons (.tmp rfl) .nil) (List.nil_sublist _) ?_
        exact ⟨by rw [show topG gs c i s = false from by cases h : topG gs c i s; rfl; rcases (topG_iff hi).1 h k hlt with q | q; exact absurd q h19; exact absurd q hu]; rfl, rfl⟩
    · first | refine op_v (v_cmptA rfl rfl rfl) rfl ?_ | refine op_v (v_cmpfA rfl rfl rfl) rfl ?_ | refine op_v (v_cmp rfl rfl rfl) rfl ?_
      refine op_v (v_move rfl) rfl ?_
      first
        | (refine op_want rfl rfl ?_
           refine op_v (v_move rfl) rfl ?_)
        | (refine op_skip rfl rfl (by simp [undef]) rfl ?_)
      first
        | (refine op_want rfl rfl ?_
           refine op_v (v_move rfl) rfl ?_)
        | (refine op_skip rfl rfl (by simp [undef]) rfl ?_)
      first
        | (refine op_want rfl rfl ?_
           refine op_fcall rfl rfl rfl ((FDoes.ofFunc (args := [_]) (caps := [_, _, _, _]) pl135 (top1_does (hg.mono hI0) (hv.mono hI0) hsm hchk hi hlt))) Parts.all ?_
           rintro v23 I23 _ hI23 ⟨rfl, rfl⟩
           rw [List.append_nil])
        | (refine op_skip rfl rfl (by simp [undef]) rfl ?_)
      first
        | (refine op_want rfl rfl ?_
           refine op_v (v_not rfl) rfl ?_)
        | (refine op_skip rfl rfl (by simp [undef]) rfl ?_)
      first | refine op_v (v_pickt rfl rfl) rfl ?_ | refine op_v (v_pickf rfl rfl) rfl ?_ | refine op_v (v_pickb rfl rfl rfl) rfl ?_
      refine ops_nil ?_
      refine post_next ?_
      refine code_cond_f rfl ?_
      refine code_skip ?_
      refine post_out ?_
      refine post_next ?_
      refine code_region ?_
      first | refine op_v (v_addb rfl rfl rfl (by omega)) rfl ?_ | refine op_v (v_add rfl rfl) rfl ?_
      refine op_v (v_move rfl) rfl ?_
      refine ops_nil ?_
      refine post_again (c.length - (k + 1)) [(6, .pointer (some ⟨b6, 0, none⟩)), (9, .func (.func 135) #[] #[.pointer (some ⟨b4, 0, none⟩), .pointer (some ⟨b5, 0, none⟩), .pointer (some ⟨b6, 0, none⟩), .pointer (some ⟨b7, 0, none⟩)]), (13, .int .i64 c.length), (14, .int .i64 (k + 1 : Nat))] (by omega) ⟨k + 1, rfl, hlt, rfl, Imm.leA, rfl, fun j h hj => ?_⟩ ⟨rfl, rfl, rfl, rfl, trivial⟩
      rcases Nat.lt_or_ge j k with q | q
      · exact hall j h q
      · left; have := Classical.not_not.1 h19; omega
  · have hge : k = c.length := by simp at hc0; omega
    refine code_exit ?_
    refine post_exit_then ?_
    refine post_exit_then ?_
    refine post_exit ?_
    refine post_next ?_
    refine code_seq ?_
    refine code_region ?_
    refine op_v (v_assign rfl) rfl ?_
    refine ops_nil ?_
    refine post_next ?_
    refine code_ret ?_
    refine post_ret (rs := [.tmp 8]) rfl (List.Perm.refl _) (.cons (.tmp rfl) .nil) (List.nil_sublist _) ?_
    exact ⟨by rw [(topG_iff hi).2 fun j h => hall j h (by omega)]; rfl, rfl⟩
def maxE (gs : List Sy) (c : List Li) (i : Int) : Int := if chkC gs c ≠ 0 then chkC gs c else if i < 0 ∨ (c.length : Int) ≤ i then 1 else 0
def maxB (gs : List Sy) (c : List Li) (i : Int) (s : Bool) : Bool := if maxE gs c i = 0 then topG gs c i.toNat s else false
theorem Maximal_does {I : Imm} {vg va : Value} {gs : List Sy} {c : List Li} {s : Bool} {i : Int} (hg : RepG I vg gs) (hv : RepC I va c) (hsm : SmC c) :
    Does Try.prog 48 [vg, va, .int .i64 i, .bool s] I [] (fun v _ δ' => v = .tuple #[.bool (maxB gs c i s), .int .i64 (maxE gs c i)] ∧ δ' = []) := by
  obtain ⟨ad, c0, hsh⟩ := RepE.shape hv
  subst hsh
  have hb := hv.small
  refine Does.intro Try.func48 rfl Try.ntmps48 rfl fun w0 => ?_
  refine code_seq ?_
  refine code_region ?_
  refine op_v (v_assign rfl) rfl ?_
  refine op_v (v_assign rfl) rfl ?_
  refine ops_nil ?_
  refine post_next ?_
  refine code_seq ?_
  refine code_seq ?_
  refine code_region ?_
  refine op_v (v_move rfl) rfl ?_
  refine op_v (v_move rfl) rfl ?_
  refine op_call pl46 rfl rfl ((CCheck_does hg hv hsm)) Parts.none ?_
  rintro v13 I13 _ hI13 ⟨rfl, rfl⟩
  refine op_v (v_assign rfl) rfl ?_
  refine ops_nil ?_
  refine post_next ?_
  refine code_seq ?_
  refine code_region ?_
  refine op_v (v_move rfl) rfl ?_
  by_cases h15 : chkC gs c ≠ 0
  · have he : maxE gs c i = chkC gs c := if_pos h15
    first | refine op_v (v_cmptA rfl rfl rfl) rfl ?_ | refine op_v (v_cmpfA rfl rfl rfl) rfl ?_ | refine op_v (v_cmp rfl rfl rfl) rfl ?_
    refine ops_nil ?_
    refine post_next ?_
    refine code_cond_t rfl ?_
    refine code_seq ?_
    refine code_region ?_
    refine op_v (v_move rfl) rfl ?_
    refine op_v (v_assign rfl) rfl ?_
    refine op_v (v_assign rfl) rfl ?_
    refine ops_nil ?_
    refine post_next ?_
    refine code_ret ?_
    refine post_ret_then ?_
    refine post_ret (rs := [.tmp 8, .tmp 9]) rfl (List.Perm.refl _) (.cons (.tmp rfl) (.cons (.tmp rfl) .nil)) (List.nil_sublist _) ?_
    exact ⟨by unfold maxB; rw [he, if_neg h15]; rfl, rfl⟩
  · have hc : chkC gs c = 0 := Classical.not_not.1 h15
    first | refine op_v (v_cmptA rfl rfl rfl) rfl ?_ | refine op_v (v_cmpfA rfl rfl rfl) rfl ?_ | refine op_v (v_cmp rfl rfl rfl) rfl ?_
    refine ops_nil ?_
    refine post_next ?_
    refine code_cond_f rfl ?_
    refine code_skip ?_
    refine post_next ?_
    refine code_seq ?_
    refine code_seq ?_
    refine code_region ?_
    refine op_v (v_move rfl) rfl ?_
    by_cases h18 : i < 0
    · have he : maxE gs c i = 1 := by unfold maxE; rw [if_neg h15, if_pos (.inl h18)]
      first | refine op_v (v_cmptA rfl rfl rfl) rfl ?_ | refine op_v (v_cmpfA rfl rfl rfl) rfl ?_ | refine op_v (v_cmp rfl rfl rfl) rfl ?_
      refine op_v (v_move rfl) rfl ?_
      first
        | (refine op_want rfl rfl ?_
           refine op_v (v_move rfl) rfl ?_)
        | (refine op_skip rfl rfl (by simp [undef]) rfl ?_)
      first
        | (refine op_want rfl rfl ?_
           refine op_v (v_move rfl) rfl ?_)
        | (refine op_skip rfl rfl (by simp [undef]) rfl ?_)
      first
        | (refine op_want rfl rfl ?_
           refine op_v (v_len Try.underlying26 rfl) rfl ?_)
        | (refine op_skip rfl rfl (by simp [undef]) rfl ?_)
      first
        | (refine op_want rfl rfl ?_
           first | refine op_v (v_cmptA rfl rfl rfl) rfl ?_ | refine op_v (v_cmpfA rfl rfl rfl) rfl ?_ | refine op_v (v_cmp rfl rfl rfl) rfl ?_)
        | (refine op_skip rfl rfl (by simp [undef]) rfl ?_)
      first | refine op_v (v_pickt rfl rfl) rfl ?_ | refine op_v (v_pickf rfl rfl) rfl ?_ | refine op_v (v_pickb rfl rfl rfl) rfl ?_
      refine ops_nil ?_
      refine post_next ?_
      refine code_cond_t rfl ?_
      refine code_seq ?_
      refine code_region ?_
      refine op_v (v_assign rfl) rfl ?_
      refine op_v (v_assign rfl) rfl ?_
      refine ops_nil ?_
      refine post_next ?_
      refine code_ret ?_
      refine post_ret_then ?_
      refine post_ret (rs := [.tmp 8, .tmp 9]) rfl (List.Perm.refl _) (.cons (.tmp rfl) (.cons (.tmp rfl) .nil)) (List.nil_sublist _) ?_
      exact ⟨by unfold maxB; rw [he, if_neg (by decide)]; rfl, rfl⟩
    · first | refine op_v (v_cmptA rfl rfl rfl) rfl ?_ | refine op_v (v_cmpfA rfl rfl rfl) rfl ?_ | refine op_v (v_cmp rfl rfl rfl) rfl ?_
      refine op_v (v_move rfl) rfl ?_
      first
        | (refine op_want rfl rfl ?_
           refine op_v (v_move rfl) rfl ?_)
        | (refine op_skip rfl rfl (by simp [undef]) rfl ?_)
      first
        | (refine op_want rfl rfl ?_
           refine op_v (v_move rfl) rfl ?_)
        | (refine op_skip rfl rfl (by simp [undef]) rfl ?_)
      first
        | (refine op_want rfl rfl ?_
           refine op_v (v_len Try.underlying26 rfl) rfl ?_)
        | (refine op_skip rfl rfl (by simp [undef]) rfl ?_)
      by_cases h23 : (c.length : Int) ≤ i
      · have he : maxE gs c i = 1 := by unfold maxE; rw [if_neg h15, if_pos (.inr h23)]
        first
          | (refine op_want rfl rfl ?_
             first | refine op_v (v_cmptA rfl rfl rfl) rfl ?_ | refine op_v (v_cmpfA rfl rfl rfl) rfl ?_ | refine op_v (v_cmp rfl rfl rfl) rfl ?_)
          | (refine op_skip rfl rfl (by simp [undef]) rfl ?_)
        first | refine op_v (v_pickt rfl rfl) rfl ?_ | refine op_v (v_pickf rfl rfl) rfl ?_ | refine op_v (v_pickb rfl rfl rfl) rfl ?_
        refine ops_nil ?_
        refine post_next ?_
        refine code_cond_t rfl ?_
        refine code_seq ?_
        refine code_region ?_
        refine op_v (v_assign rfl) rfl ?_
        refine op_v (v_assign rfl) rfl ?_
        refine ops_nil ?_
        refine post_next ?_
        refine code_ret ?_
        refine post_ret_then ?_
        refine post_ret (rs := [.tmp 8, .tmp 9]) rfl (List.Perm.refl _) (.cons (.tmp rfl) (.cons (.tmp rfl) .nil)) (List.nil_sublist _) ?_
        exact ⟨by unfold maxB; rw [he, if_neg (by decide)]; rfl, rfl⟩
      · have he : maxE gs c i = 0 := by unfold maxE; rw [if_neg h15, if_neg (fun h => by rcases h with h | h; exact h18 h; exact h23 h)]
        obtain ⟨n, hn⟩ := Int.eq_ofNat_of_zero_le (show 0 ≤ i by omega)
        subst hn
        first
          | (refine op_want rfl rfl ?_
             first | refine op_v (v_cmptA rfl rfl rfl) rfl ?_ | refine op_v (v_cmpfA rfl rfl rfl) rfl ?_ | refine op_v (v_cmp rfl rfl rfl) rfl ?_)
          | (refine op_skip rfl rfl (by simp [undef]) rfl ?_)
        first | refine op_v (v_pickt rfl rfl) rfl ?_ | refine op_v (v_pickf rfl rfl) rfl ?_ | refine op_v (v_pickb rfl rfl rfl) rfl ?_
        refine ops_nil ?_
        refine post_next ?_
        refine code_cond_f rfl ?_
        refine code_skip ?_
        refine post_next ?_
        refine code_seq ?_
        refine code_region ?_
        refine op_v (v_move rfl) rfl ?_
        refine op_v (v_move rfl) rfl ?_
        refine op_v (v_move rfl) rfl ?_
        refine op_v (v_move rfl) rfl ?_
        refine op_call pl96 rfl rfl ((top_does (i := n) (hg.mono Imm.leA) (hv.mono Imm.leA) hsm hc (by omega))) Parts.none ?_
        rintro v29 I29 _ hI29 ⟨rfl, rfl⟩
        refine op_v (v_assign rfl) rfl ?_
        refine op_v (v_assign rfl) rfl ?_
        refine ops_nil ?_
        refine post_next ?_
        refine code_ret ?_
        refine post_ret (rs := [.tmp 8, .tmp 9]) rfl (List.Perm.refl _) (.cons (.tmp rfl) (.cons (.tmp rfl) .nil)) (List.nil_sublist _) ?_
        exact ⟨by unfold maxB; rw [he, if_pos rfl]; rfl, rfl⟩
end Go.Proofs.Ytdbadicpbmndbaa
/- What is selected, what may play a part: plainly, and walks. -/
set_option linter.unusedVariables false
set_option linter.unusedSimpArgs false
set_option linter.unnecessarySimpa false
/- short -/
namespace Go.Proofs.Ytdbadicpbmndbaa
open Go Lg

theorem Lg.v_indexArr {C : Ctx} {σ : Env} {ds : List Nat} {I : Imm} {δ : List Ent} {t e : TypeId} {x y : Operand} {b n i size : Nat} (ht : C.P.underlying t = some (.array n e)) (hsz : (C.P.info? e).map (·.size) = some size)
    (hx : evS σ x = some (.pointer (some ⟨b, 0, none⟩))) (hy : evS σ y = some (.int .i64 (i : Int))) (hi : i < n) : ValJ C σ ds I δ (.indexAddr t x y) (.pointer (some ⟨b, i * size, none⟩)) :=
  fun _ _ _ _ _ => (fun a w he _ => by
    have hu : (underlying t).run C.P w = .ok (.array n e) w := by simp [underlying, program, Sem.run, ht]
    cases hq : C.P.info? e with
    | none => simp [hq] at hsz
    | some inf =>
      simp [hq] at hsz
      simp [execOp, he.ev hx, he.ev hy, Instr.indexAt, asIntOf, hu, Instr.sureAddr, sizeOf, typeInfo, program, Sem.run, hq, hsz, Addr.add]
      split
      · simp; intro q; exact q.symm
      · first | omega | (exfalso; omega))
/-! ### plain -/
def litW (gs : List Sy) (x : Li) : Int := IntKind.i64.wrap ((if termG gs x.l = 0 then wgtG gs x.l else 0) + (if termG gs x.r = 0 then wgtG gs x.r else 0))
def pickG (gs : List Sy) (c : List Li) (how : Int) : Nat → Option Nat
  | 0 => none
  | k + 1 => if (c.getD k zeroLi).neg = false ∨ how = 0 then pickG gs c how k else match pickG gs c how k with
    | none => some k
    | some j => if how = 2 ∧ litW gs (c.getD j zeroLi) < litW gs (c.getD k zeroLi) then some k else some j
def selO : Option Nat → List Int
  | none => []
  | some j => [(j : Int)]
def selG (gs : List Sy) (c : List Li) (how : Int) : List Int := selO (pickG gs c how c.length)
theorem getD_at {c : List Li} {k : Nat} (h : k < c.length) : c.getD k zeroLi = c[k] := by rw [List.getD_eq_getElem?_getD, List.getElem?_eq_getElem h]; rfl
theorem pickG_zero (gs : List Sy) (c : List Li) : ∀ k, pickG gs c 0 k = none
  | 0 => rfl
  | k + 1 => by simp only [pickG]; rw [if_pos (.inr trivial)]; exact pickG_zero gs c k
theorem pickG_neg (gs : List Sy) (c : List Li) (how : Int) : ∀ k j, pickG gs c how k = some j → j < k ∧ (c.getD j zeroLi).neg = true
  | 0, j, h => by cases h
  | k + 1, j, h => by
    simp only [pickG] at h
    split at h
    · have := pickG_neg gs c how k j h; exact ⟨by omega, this.2⟩
    · rename_i hn
      have hk : (c.getD k zeroLi).neg = true := by
        cases q : (c.getD k zeroLi).neg
        · exact absurd (.inl q) hn
        · rfl
      split at h
      · cases h; exact ⟨by omega, hk⟩
      · rename_i i hi
        split at h
        · cases h; exact ⟨by omega, hk⟩
        · cases h
          have := pickG_neg gs c how k j hi; exact ⟨by omega, this.2⟩
theorem pickG_none {gs : List Sy} {c : List Li} {how : Int} (h0 : how ≠ 0) : ∀ k, k ≤ c.length → (pickG gs c how k = none ↔ (c.take k).any (·.neg) = false)
  | 0, _ => by simp [pickG]
  | k + 1, hk => by
    have ih := pickG_none (gs := gs) (c := c) h0 k (by omega)
    rw [List.take_succ_eq_append_getElem (by omega), List.any_append]
    simp only [pickG]
    rw [getD_at (by omega : k < c.length)]
    split
    · rename_i h
      have hn : c[k].neg = false := by rcases h with h | h; exact h; exact absurd h h0
      rw [ih]; simp [hn]
    · rename_i h
      have hn : c[k].neg = true := by
        cases q : c[k].neg
        · exact absurd (.inl q) h
        · rfl
      simp only [List.any_cons, hn]
      split
      · simp
      · split <;> simp
def firstN (c : List Li) : List Int := if c.any (·.neg) = true then [((c.findIdx (·.neg) : Nat) : Int)] else []
theorem pickG_first {gs : List Sy} {c : List Li} : ∀ k, k ≤ c.length → pickG gs c 1 k = if (c.take k).any (·.neg) = true then some (c.findIdx (·.neg)) else none
  | 0, _ => by simp [pickG]
  | k + 1, hk => by
    have ih := pickG_first (gs := gs) (c := c) k (by omega)
    have hkl : k < c.length := by omega
    rw [List.take_succ_eq_append_getElem hkl, List.any_append]
    simp only [pickG]
    rw [getD_at hkl, ih]
    cases hn : c[k].neg with
    | false => rw [if_pos (.inl rfl)]; simp [hn]
    | true =>
      rw [if_neg (by simp)]
      by_cases q : (c.take k).any (·.neg) = true
      · rw [if_pos q]
        simp only
        rw [if_neg (by simp), if_pos (by simp [q])]
      · rw [if_neg q]
        simp only
        rw [if_pos (by simp [hn])]
        congr 1
        have q' : (c.take k).any (·.neg) = false := by simpa using q
        refine ((List.findIdx_eq hkl).2 ⟨hn, fun j hj => ?_⟩).symm
        have := List.any_eq_false.1 q' c[j] (List.mem_take_iff_getElem.2 ⟨j, by omega, rfl⟩)
        simpa using this
theorem selG_first (gs : List Sy) (c : List Li) : selG gs c 1 = firstN c := by
  unfold selG firstN
  rw [pickG_first c.length (Nat.le_refl _), List.take_length]
  split <;> rfl
/-- what the heavy way holds behind so many -/
def bestL (gs : List Sy) (c : List Li) (k : Nat) : List Int := match pickG gs c 2 k with
  | none => firstN c
  | some j => [(j : Int)]
theorem bestL_end (gs : List Sy) (c : List Li) : bestL gs c c.length = selG gs c 2 := by
  unfold bestL selG
  cases h : pickG gs c 2 c.length with
  | some j => rfl
  | none =>
    have := (pickG_none (gs := gs) (by decide) c.length (Nat.le_refl _)).1 h
    rw [List.take_length] at this
    show firstN c = []
    unfold firstN; rw [this]; rfl
theorem bestL_skip {gs : List Sy} {c : List Li} {k : Nat} (hk : k < c.length) (h : c[k].neg = false) : bestL gs c (k + 1) = bestL gs c k := by
  have e : pickG gs c 2 (k + 1) = pickG gs c 2 k := by simp only [pickG]; rw [getD_at hk, if_pos (.inl h)]
  unfold bestL; rw [e]
theorem bestL_neg {gs : List Sy} {c : List Li} {k : Nat} (hk : k < c.length) (h : c[k].neg = true) : ∃ (j : Nat) (hj : j < c.length), bestL gs c k = [(j : Int)] ∧ bestL gs c (k + 1) = if litW gs c[j] < litW gs c[k] then [(k : Int)] else [(j : Int)] := by
  have e : pickG gs c 2 (k + 1) = match pickG gs c 2 k with
      | none => some k
      | some j => if litW gs (c.getD j zeroLi) < litW gs c[k] then some k else some j := by
    simp only [pickG]; rw [getD_at hk, if_neg (by simp [h])]
    simp only [true_and]
  cases hp : pickG gs c 2 k with
  | some j =>
    have hj := pickG_neg gs c 2 k j hp
    rw [hp] at e
    simp only at e
    have hjl : j < c.length := by omega
    rw [getD_at hjl] at e
    refine ⟨j, hjl, by unfold bestL; rw [hp], ?_⟩
    unfold bestL; rw [e]
    by_cases q : litW gs c[j] < litW gs c[k]
    · rw [if_pos q, if_pos q]
    · rw [if_neg q, if_neg q]
  | none =>
    rw [hp] at e
    simp only at e
    have hno := (pickG_none (gs := gs) (by decide) k (by omega)).1 hp
    have hf : c.findIdx (·.neg) = k := (List.findIdx_eq hk).2 ⟨h, fun j hj => by
      have := List.any_eq_false.1 hno c[j] (List.mem_take_iff_getElem.2 ⟨j, by omega, rfl⟩)
      simpa using this⟩
    have ha : c.any (·.neg) = true := List.any_eq_true.2 ⟨c[k], List.getElem_mem hk, h⟩
    refine ⟨k, hk, by unfold bestL; rw [hp]; show firstN c = _; unfold firstN; rw [if_pos ha, hf], ?_⟩
    unfold bestL; rw [e, if_neg (by omega)]
/-! ### walks -/
theorem weightL_does {I : Imm} {vg va : Value} {gs : List Sy} {x : Li} (hg : RepG I vg gs) (ha : RepL I va x) (h1 : x.l.size ≤ 1000000000) (h2 : x.r.size ≤ 1000000000) :
    Does Try.prog 141 [vg, va] I [] (fun v _ δ' => v = .int .i64 (litW gs x) ∧ δ' = []) := by
  obtain ⟨la, lc, ra, rc, rfl, hl, hr⟩ := ha
  refine Does.intro Try.func141 rfl Try.ntmps141 rfl fun w0 => ?_
  refine code_seq ?_
  refine code_region ?_
  refine o_box rfl rfl rfl (fun b3 => ?_)
  refine op_v (v_assign rfl) rfl ?_
  refine ops_nil ?_
  refine post_next ?_
  refine code_seq ?_
  refine code_region ?_
  refine op_v (v_move rfl) rfl ?_
  first | refine op_v (v_fieldB 1 Try.underlying49 rfl rfl fz47 rfl) rfl ?_ | refine op_v (v_fieldI 1 Try.underlying49 rfl rfl fz47 rfl (by assumption)) rfl ?_ | refine op_v (v_field Try.underlying49 rfl fz47 rfl rfl) rfl ?_
  refine op_v (v_loadA ty47 rfl rfl) rfl ?_
  refine op_call pl173 rfl rfl ((GWeight_does (hg.mono Imm.leA) (hl.mono Imm.leA) h1)) Parts.none ?_
  rintro v13 I13 _ hI13 ⟨rfl, rfl⟩
  refine op_v (v_move rfl) rfl ?_
  refine op_v (v_extract rfl rfl) rfl ?_
  refine op_v (v_extract rfl rfl) rfl ?_
  refine op_v (v_assign rfl) rfl ?_
  refine op_v (v_assign rfl) rfl ?_
  refine ops_nil ?_
  refine post_next ?_
  refine code_seq ?_
  refine code_region ?_
  refine op_v (v_move rfl) rfl ?_
  first | refine op_v (v_fieldB 3 Try.underlying49 rfl rfl fz47 rfl) rfl ?_ | refine op_v (v_fieldI 3 Try.underlying49 rfl rfl fz47 rfl (by assumption)) rfl ?_ | refine op_v (v_field Try.underlying49 rfl fz47 rfl rfl) rfl ?_
  refine op_v (v_loadA ty47 rfl rfl) rfl ?_
  refine op_call pl173 rfl rfl ((GWeight_does (hg.mono Imm.leA) (hr.mono Imm.leA) h2)) Parts.none ?_
  rintro v20 I20 _ hI20 ⟨rfl, rfl⟩
  refine op_v (v_move rfl) rfl ?_
  refine op_v (v_extract rfl rfl) rfl ?_
  refine op_v (v_extract rfl rfl) rfl ?_
  refine op_v (v_assign rfl) rfl ?_
  refine op_v (v_assign rfl) rfl ?_
  refine ops_nil ?_
  refine post_next ?_
  refine code_seq ?_
  refine code_region ?_
  refine op_v (v_move rfl) rfl ?_
  refine op_v (v_move rfl) rfl ?_
  refine op_v (v_add rfl rfl) rfl ?_
  refine op_v (v_assign rfl) rfl ?_
  refine ops_nil ?_
  refine post_next ?_
  refine code_ret ?_
  refine post_ret (rs := [.tmp 4]) rfl (List.Perm.refl _) (.cons (.tmp rfl) .nil) (List.nil_sublist _) ?_
  exact ⟨rfl, rfl⟩
theorem none_does {I : Imm} {vg va : Value} {gs : List Sy} {c : List Li} :
    Does Try.prog 99 [vg, va] I [] (fun v I' δ' => RInts I' v (selG gs c 0) ∧ δ' = []) := by
  refine Does.intro Try.func99 rfl Try.ntmps99 rfl fun w0 => ?_
  refine code_seq ?_
  refine code_region ?_
  refine op_v (v_assign rfl) rfl ?_
  refine ops_nil ?_
  refine post_next ?_
  refine code_seq ?_
  refine code_region ?_
  refine op_v (v_assign rfl) rfl ?_
  refine ops_nil ?_
  refine post_next ?_
  refine code_ret ?_
  refine post_ret (rs := [.tmp 4]) rfl (List.Perm.refl _) (.cons (.tmp rfl) .nil) (List.nil_sublist _) ?_
  exact ⟨by unfold selG; rw [pickG_zero]; exact RInts.nil _, rfl⟩
theorem first1_does {I : Imm} {x : Li} {ux : List Value} (hx : LitE.R I x ux) :
    Does Try.prog 140 [.agg ux.toArray] I [] (fun v _ δ' => v = .bool x.neg ∧ δ' = []) := by
  obtain ⟨la, lc, ra, rc, rfl, _, _⟩ := hx
  refine Does.intro Try.func140 rfl Try.ntmps140 rfl fun w0 => ?_
  refine code_seq ?_
  refine code_region ?_
  refine o_box rfl rfl rfl (fun b1 => ?_)
  refine op_v (v_assign rfl) rfl ?_
  refine ops_nil ?_
  refine post_next ?_
  refine code_seq ?_
  refine code_region ?_
  first | refine op_v (v_fieldB 0 Try.underlying49 rfl rfl fz4 rfl) rfl ?_ | refine op_v (v_fieldI 0 Try.underlying49 rfl rfl fz4 rfl (by assumption)) rfl ?_ | refine op_v (v_field Try.underlying49 rfl fz4 rfl rfl) rfl ?_
  refine op_v (v_loadA ty4 rfl rfl) rfl ?_
  refine op_v (v_assign rfl) rfl ?_
  refine ops_nil ?_
  refine post_next ?_
  refine code_ret ?_
  refine post_ret (rs := [.tmp 2]) rfl (List.Perm.refl _) (.cons (.tmp rfl) .nil) (List.nil_sublist _) ?_
  exact ⟨rfl, rfl⟩
theorem first_doesM {I : Imm} {vg va : Value} {c : List Li} (hv : RepC I va c) :
    Does Try.prog 100 [vg, va] I [] (fun v I' δ' => RInts I' v (firstN c) ∧ δ' = []) := by
  have hb := hv.small
  refine Does.intro Try.func100 rfl Try.ntmps100 rfl fun w0 => ?_
  refine code_seq ?_
  refine code_region ?_
  refine op_v (v_assign rfl) rfl ?_
  refine ops_nil ?_
  refine post_next ?_
  refine code_seq ?_
  refine code_region ?_
  refine op_v (v_move rfl) rfl ?_
  refine op_call pl116 rfl rfl ((IdxC_does (p := fun x => x.neg) hv (fun J x u hJ hu hx => Does.toF (args := [_]) (by kernel_rfl) (first1_does hu)))) Parts.none ?_
  rintro v7 I7 _ hI7 ⟨⟨n, rfl, hn⟩, rfl⟩
  refine op_v (v_assign rfl) rfl ?_
  refine ops_nil ?_
  refine post_next ?_
  refine code_seq ?_
  refine code_seq ?_
  refine code_region ?_
  refine op_v (v_move rfl) rfl ?_
  by_cases h9 : n < 0
  · have he : firstN c = [] := by
      rcases hn with ⟨_, h⟩ | ⟨j, hj, e, _⟩
      · unfold firstN; rw [h]; rfl
      · omega
    first | refine op_v (v_cmptA rfl rfl rfl) rfl ?_ | refine op_v (v_cmpfA rfl rfl rfl) rfl ?_ | refine op_v (v_cmp rfl rfl rfl) rfl ?_
    refine ops_nil ?_
    refine post_next ?_
    refine code_cond_t rfl ?_
    refine code_seq ?_
    refine code_region ?_
    refine op_v (v_assign rfl) rfl ?_
    refine ops_nil ?_
    refine post_next ?_
    refine code_ret ?_
    refine post_ret_then ?_
    refine post_ret (rs := [.tmp 4]) rfl (List.Perm.refl _) (.cons (.tmp rfl) .nil) (List.nil_sublist _) ?_
    exact ⟨by rw [he]; exact RInts.nil _, rfl⟩
  · have he : firstN c = [n] ∧ InR n := by
      rcases hn with ⟨e, h⟩ | ⟨j, hj, rfl, hp, hno⟩
      · omega
      · have hf : c.findIdx (·.neg) = j := (List.findIdx_eq hj).2 ⟨hp, fun i hi => by
          have := List.any_eq_false.1 hno c[i] (List.mem_take_iff_getElem.2 ⟨i, by omega, rfl⟩)
          simpa using this⟩
        exact ⟨by unfold firstN; rw [if_pos (List.any_eq_true.2 ⟨c[j], List.getElem_mem hj, hp⟩), hf], by unfold InR; omega⟩
    first | refine op_v (v_cmptA rfl rfl rfl) rfl ?_ | refine op_v (v_cmpfA rfl rfl rfl) rfl ?_ | refine op_v (v_cmp rfl rfl rfl) rfl ?_
    refine ops_nil ?_
    refine post_next ?_
    refine code_cond_f rfl ?_
    refine code_skip ?_
    refine post_next ?_
    refine code_seq ?_
    refine code_region ?_
    refine op_v (v_move rfl) rfl ?_
    refine o_buildSlice (xs := [(Go.Operand.tmp 10)]) Try.underlying62 bs3 rfl rfl rfl rfl rfl (fun b11 => ?_)
    refine OpsJ.freezeRow Del.here ?_
    rintro I11 a11 c11 hI11 hq hc11 hl11 hcells11
    cases hq
    refine op_v (v_assign rfl) rfl ?_
    refine ops_nil ?_
    refine post_next ?_
    refine code_ret ?_
    refine post_ret (rs := [.tmp 4]) rfl (List.Perm.refl _) (.cons (.tmp rfl) .nil) (List.nil_sublist _) ?_
    exact ⟨by rw [he.1]; exact RInts.of rfl hc11 (by decide) hcells11 (by intro x hx; simp at hx; subst hx; exact he.2), rfl⟩
theorem heavy_does {I : Imm} {vg va : Value} {gs : List Sy} {c : List Li} (hg : RepG I vg gs) (hv : RepC I va c) (hsm : SmC c) :
    Does Try.prog 101 [vg, va] I [] (fun v I' δ' => RInts I' v (selG gs c 2) ∧ δ' = []) := by
  obtain ⟨ad, c0, xs, rfl, hc, hb, hcells, hrow⟩ := id hv
  refine Does.intro Try.func101 rfl Try.ntmps101 rfl fun w0 => ?_
  refine code_seq ?_
  refine code_region ?_
  refine op_v (v_assign rfl) rfl ?_
  refine ops_nil ?_
  refine post_next ?_
  refine code_seq ?_
  refine code_region ?_
  refine op_v (v_move rfl) rfl ?_
  refine op_v (v_move rfl) rfl ?_
  refine op_call pl100 rfl rfl ((first_doesM hv)) Parts.none ?_
  rintro v10 I10 _ hI10 ⟨hv10, rfl⟩
  refine op_v (v_assign rfl) rfl ?_
  refine ops_nil ?_
  refine post_next ?_
  refine code_seq ?_
  refine code_seq ?_
  refine code_region ?_
  refine op_v (v_move rfl) rfl ?_
  refine op_v (v_len Try.underlying26 rfl) rfl ?_
  refine op_v (v_move rfl) rfl ?_
  refine ops_nil ?_
  refine post_next ?_
  refine code_block ?_
  refine code_loop (fun m σ' I' δ' => ∃ (k : Nat) (vb : Value), m = c.length - k ∧ k ≤ c.length ∧ σ' = [(0, vg), (1, .slice ad c.length c0), (5, vb), (11, .slice ad c.length c0), (12, .int .i64 c.length), (13, .int .i64 k)] ∧ I10.le I' ∧ δ' = [] ∧ RInts I' vb (bestL gs c k)) c.length [(0, vg), (1, .slice ad c.length c0), (5, v10), (11, .slice ad c.length c0), (12, .int .i64 c.length), (13, .int .i64 (0 : Nat))] ⟨0, v10, rfl, Nat.zero_le _, rfl, Imm.le_refl _, rfl, hv10⟩ ⟨rfl, rfl, rfl, rfl, rfl, rfl, trivial⟩ ?_
  rintro m _ I0 _ ⟨k, vb, rfl, hk, rfl, hI0, rfl, hvb⟩
  refine code_seq ?_
  refine code_region ?_
  first | refine op_v (v_cmptA rfl rfl rfl) rfl ?_ | refine op_v (v_cmpfA rfl rfl rfl) rfl ?_ | refine op_v (v_cmp rfl rfl rfl) rfl ?_
  refine ops_nil ?_
  refine post_next ?_
  refine code_seq ?_
  refine code_cond rfl (fun hc0 => ?_) (fun hc0 => ?_)
  · have hlt : k < c.length := by simpa using hc0
    obtain ⟨vs, ⟨la, lc, ra, rc, rfl, hl, hr⟩, hat⟩ := hrow.cellsAt hcells hlt
    have hs1 := hat.isSome
    have hsk := hsm.at hlt
    refine code_skip ?_
    refine post_next ?_
    refine code_seq ?_
    refine code_block ?_
    refine code_seq ?_
    refine code_region ?_
    refine op_v (v_move rfl) rfl ?_
    first | refine op_v (v_indexA Try.underlying26 sz49 rfl rfl) rfl ?_ | refine op_v (v_indexIA Try.underlying26 sz49 rfl rfl) rfl ?_
    first | refine op_v (v_loadI0 ty49 (hat.mono Imm.leA) rfl rfl rfl) rfl ?_ | refine op_v (v_loadI ty49 (hat.mono Imm.leA) rfl rfl rfl) rfl ?_
    refine o_alloc z49 rfl rfl (fun b7 => ?_)
    refine op_v (v_assign rfl) rfl ?_
    refine o_store ty49 rfl rfl rfl rfl rfl (by repeat (first | exact Swap.here | apply Swap.there)) rfl ?_
    refine ops_nil ?_
    refine post_next ?_
    refine code_seq ?_
    refine code_draw (.fl 0 (.fl 1 (.fl 2 (.fl 3 (.fl 4 (.fl 6 (.fl 7 (.fl 8 (.fl 9 (.fl 10 (.fl 11 (.fl 12 (.ef 5 (.ef 13 (.fl 14 (.fl 15 .done)))))))))))))))) (fun _ => _) mixed (by kernel_rfl) (by kernel_rfl) (fun _ => (List.Sublist.refl _)) ?_
    first | refine e_fl rfl rfl (fun hs_ => PF.mk rfl (v_fieldB 0 Try.underlying49 rfl rfl fz4 rfl) hs_) ?_ | refine e_fl rfl rfl (fun hs_ => PF.mk rfl (v_fieldI 0 Try.underlying49 rfl rfl fz4 rfl (by assumption)) hs_) ?_ | refine e_fl rfl rfl (fun hs_ => PF.mk rfl (v_field Try.underlying49 rfl fz4 rfl rfl) hs_) ?_
    refine e_fl rfl rfl (fun hs_ => PF.mk rfl (v_loadA ty4 rfl rfl) hs_) ?_
    by_cases hn : c[k].neg = true
    · obtain ⟨j, hj, hb1, hb2⟩ := bestL_neg (gs := gs) hlt hn
      rw [hb1] at hvb
      obtain ⟨ba, bc, rfl⟩ := hvb.shape
      have hatj := hvb.atI 0 Nat.zero_lt_one
      have hsb := hatj.isSome
      obtain ⟨vj, ⟨ma, mc, na, nc, rfl, hjl, hjr⟩, hatc⟩ := hrow.cellsAt hcells hj
      have hsj := hsm.at hj
      refine e_fl rfl rfl (fun hs_ => PF.mk rfl (v_move (v := .bool true) (by show some (Value.bool c[k].neg) = _; rw [hn])) hs_) ?_
      first | refine e_fl rfl rfl (fun hs_ => PF.mkg rfl rfl rfl (v_move rfl) hs_) ?_ | refine e_fl rfl rfl (fun hs_ => PF.mks rfl (by intro c hc; cases hc) rfl rfl (by simp [undef]) hs_) ?_
      first | refine e_fl rfl rfl (fun hs_ => PF.mkg rfl rfl rfl (v_loadA ty49 rfl rfl) hs_) ?_ | refine e_fl rfl rfl (fun hs_ => PF.mks rfl (by intro c hc; cases hc) rfl rfl (by simp [undef]) hs_) ?_
      first | refine e_fl rfl rfl (fun hs_ => PF.mkg rfl rfl rfl (v_move rfl) hs_) ?_ | refine e_fl rfl rfl (fun hs_ => PF.mks rfl (by intro c hc; cases hc) rfl rfl (by simp [undef]) hs_) ?_
      first | refine e_fl rfl rfl (fun hs_ => PF.mkg rfl rfl rfl (v_move rfl) hs_) ?_ | refine e_fl rfl rfl (fun hs_ => PF.mks rfl (by intro c hc; cases hc) rfl rfl (by simp [undef]) hs_) ?_
      first | refine e_fl rfl rfl (fun hs_ => PF.mkg rfl rfl rfl (v_move rfl) hs_) ?_ | refine e_fl rfl rfl (fun hs_ => PF.mks rfl (by intro c hc; cases hc) rfl rfl (by simp [undef]) hs_) ?_
      first | refine e_fl rfl rfl (fun hs_ => PF.mkg rfl rfl rfl (v_indexA Try.underlying62 sz3 rfl rfl) hs_) ?_ | refine e_fl rfl rfl (fun hs_ => PF.mkg rfl rfl rfl (v_indexIA Try.underlying62 sz3 rfl rfl) hs_) ?_ | refine e_fl rfl rfl (fun hs_ => PF.mks rfl (by intro c hc; cases hc) rfl rfl (by simp [undef]) hs_) ?_
      first | refine e_fl rfl rfl (fun hs_ => PF.mkg rfl rfl rfl (v_loadI0 ty3 (hatj.mono Imm.leA) rfl rfl rfl) hs_) ?_ | refine e_fl rfl rfl (fun hs_ => PF.mkg rfl rfl rfl (v_loadI ty3 (hatj.mono Imm.leA) rfl rfl rfl) hs_) ?_ | refine e_fl rfl rfl (fun hs_ => PF.mks rfl (by intro c hc; cases hc) rfl rfl (by simp [undef]) hs_) ?_
      first | refine e_fl rfl rfl (fun hs_ => PF.mkg rfl rfl rfl (v_indexA Try.underlying26 sz49 rfl rfl) hs_) ?_ | refine e_fl rfl rfl (fun hs_ => PF.mkg rfl rfl rfl (v_indexIA Try.underlying26 sz49 rfl rfl) hs_) ?_ | refine e_fl rfl rfl (fun hs_ => PF.mks rfl (by intro c hc; cases hc) rfl rfl (by simp [undef]) hs_) ?_
      first | refine e_fl rfl rfl (fun hs_ => PF.mkg rfl rfl rfl (v_loadI0 ty49 (hatc.mono Imm.leA) rfl rfl rfl) hs_) ?_ | refine e_fl rfl rfl (fun hs_ => PF.mkg rfl rfl rfl (v_loadI ty49 (hatc.mono Imm.leA) rfl rfl rfl) hs_) ?_ | refine e_fl rfl rfl (fun hs_ => PF.mks rfl (by intro c hc; cases hc) rfl rfl (by simp [undef]) hs_) ?_
      refine e_eff rfl (by intro cs b hc; cases hc) (by intro c hc; cases hc) ?_
      first
        | (refine op_want rfl rfl ?_
           refine op_call pl141 rfl rfl ((weightL_does (x := c[k]) (hg.mono Imm.leA) ⟨la, lc, ra, rc, rfl, hl.mono Imm.leA, hr.mono Imm.leA⟩ hsk.1 hsk.2)) Parts.none ?_
           rintro v23 I23 _ hI23 ⟨rfl, rfl⟩)
        | (refine op_skip rfl rfl (by simp [undef]) rfl ?_)
      refine ops_nil ?_
      refine e_next rfl side_allA ?_
      refine e_eff rfl (by intro cs b hc; cases hc) (by intro c hc; cases hc) ?_
      first
        | (refine op_want rfl rfl ?_
           refine op_call pl141 rfl rfl ((weightL_does (x := c[j]) (hg.mono Imm.leA) ⟨ma, mc, na, nc, rfl, hjl.mono Imm.leA, hjr.mono Imm.leA⟩ hsj.1 hsj.2)) Parts.none ?_
           rintro v31 I31 _ hI31 ⟨rfl, rfl⟩)
        | (refine op_skip rfl rfl (by simp [undef]) rfl ?_)
      refine ops_nil ?_
      refine e_next rfl side_allA ?_
      by_cases h32 : litW gs c[j] < litW gs c[k]
      · rw [if_pos h32] at hb2
        first | refine e_fl rfl rfl (fun hs_ => PF.mkg rfl rfl rfl (v_cmpt rfl rfl rfl h32) hs_) ?_ | refine e_fl rfl rfl (fun hs_ => PF.mks rfl (by intro c hc; cases hc) rfl rfl (by simp [undef]) hs_) ?_
        first | refine e_fl rfl rfl (fun hs_ => PF.mk rfl (v_pickt rfl rfl) hs_) ?_ | refine e_fl rfl rfl (fun hs_ => PF.mk rfl (v_pickf rfl rfl) hs_) ?_ | refine e_fl rfl rfl (fun hs_ => PF.mk rfl (v_pickb rfl rfl rfl) hs_) ?_
        refine e_done ?_
        refine post_next ?_
        refine code_cond_t rfl ?_
        refine code_region ?_
        refine op_v (v_move rfl) rfl ?_
        refine o_buildSlice (xs := [(Go.Operand.tmp 34)]) Try.underlying62 bs3 rfl rfl rfl rfl rfl (fun b35 => ?_)
        refine op_v (v_assign rfl) rfl ?_
        refine ops_nil ?_
        refine post_out ?_
        refine post_next ?_
        refine code_region ?_
        refine OpsJ.freezeRow Del.here ?_
        rintro I36 a36 c36 hI36 hq hc36 hl36 hcells36
        cases hq
        first | refine op_v (v_addb rfl rfl rfl (by omega)) rfl ?_ | refine op_v (v_add rfl rfl) rfl ?_
        refine op_v (v_move rfl) rfl ?_
        refine ops_nil ?_
        refine PostJ.view (View.drop Del.here) ?_
        refine post_again (c.length - (k + 1)) [(0, vg), (1, .slice ad c.length c0), (5, .slice (some ⟨b35, 0, none⟩) 1 1), (11, .slice ad c.length c0), (12, .int .i64 c.length), (13, .int .i64 (k + 1 : Nat))] (by omega) ⟨k + 1, .slice (some ⟨b35, 0, none⟩) 1 1, rfl, hlt, rfl, Imm.leA, rfl, by rw [hb2]; exact RInts.of rfl hc36 (by decide) hcells36 (by intro x hx; simp at hx; subst hx; unfold InR; omega)⟩ ⟨rfl, rfl, rfl, rfl, rfl, rfl, trivial⟩
      · rw [if_neg h32] at hb2
        first | refine e_fl rfl rfl (fun hs_ => PF.mkg rfl rfl rfl (v_cmpf rfl rfl rfl h32) hs_) ?_ | refine e_fl rfl rfl (fun hs_ => PF.mks rfl (by intro c hc; cases hc) rfl rfl (by simp [undef]) hs_) ?_
        first | refine e_fl rfl rfl (fun hs_ => PF.mk rfl (v_pickt rfl rfl) hs_) ?_ | refine e_fl rfl rfl (fun hs_ => PF.mk rfl (v_pickf rfl rfl) hs_) ?_ | refine e_fl rfl rfl (fun hs_ => PF.mk rfl (v_pickb rfl rfl rfl) hs_) ?_
        refine e_done ?_
        refine post_next ?_
        refine code_cond_f rfl ?_
        refine code_skip ?_
        refine post_out ?_
        refine post_next ?_
        refine code_region ?_
        first | refine op_v (v_addb rfl rfl rfl (by omega)) rfl ?_ | refine op_v (v_add rfl rfl) rfl ?_
        refine op_v (v_move rfl) rfl ?_
        refine ops_nil ?_
        refine PostJ.view (View.drop Del.here) ?_
        refine post_again (c.length - (k + 1)) [(0, vg), (1, .slice ad c.length c0), (5, .slice ba 1 bc), (11, .slice ad c.length c0), (12, .int .i64 c.length), (13, .int .i64 (k + 1 : Nat))] (by omega) ⟨k + 1, .slice ba 1 bc, rfl, hlt, rfl, Imm.leA, rfl, by rw [hb2]; exact hvb.mono Imm.leA⟩ ⟨rfl, rfl, rfl, rfl, rfl, rfl, trivial⟩
    · have hn' : c[k].neg = false := by simpa using hn
      have hb2 := bestL_skip (gs := gs) hlt hn'
      refine e_fl rfl rfl (fun hs_ => PF.mk rfl (v_move (v := .bool false) (by show some (Value.bool c[k].neg) = _; rw [hn'])) hs_) ?_
      first | refine e_fl rfl rfl (fun hs_ => PF.mkg rfl rfl rfl (v_move rfl) hs_) ?_ | refine e_fl rfl rfl (fun hs_ => PF.mks rfl (by intro c hc; cases hc) rfl rfl (by simp [undef]) hs_) ?_
      first | refine e_fl rfl rfl (fun hs_ => PF.mkg rfl rfl rfl (v_loadA ty49 rfl rfl) hs_) ?_ | refine e_fl rfl rfl (fun hs_ => PF.mks rfl (by intro c hc; cases hc) rfl rfl (by simp [undef]) hs_) ?_
      first | refine e_fl rfl rfl (fun hs_ => PF.mkg rfl rfl rfl (v_move rfl) hs_) ?_ | refine e_fl rfl rfl (fun hs_ => PF.mks rfl (by intro c hc; cases hc) rfl rfl (by simp [undef]) hs_) ?_
      first | refine e_fl rfl rfl (fun hs_ => PF.mkg rfl rfl rfl (v_move rfl) hs_) ?_ | refine e_fl rfl rfl (fun hs_ => PF.mks rfl (by intro c hc; cases hc) rfl rfl (by simp [undef]) hs_) ?_
      first | refine e_fl rfl rfl (fun hs_ => PF.mkg rfl rfl rfl (v_move rfl) hs_) ?_ | refine e_fl rfl rfl (fun hs_ => PF.mks rfl (by intro c hc; cases hc) rfl rfl (by simp [undef]) hs_) ?_
      first | refine e_fl rfl rfl (fun hs_ => PF.mkg rfl rfl rfl (v_indexA Try.underlying62 sz3 rfl rfl) hs_) ?_ | refine e_fl rfl rfl (fun hs_ => PF.mkg rfl rfl rfl (v_indexIA Try.underlying62 sz3 rfl rfl) hs_) ?_ | refine e_fl rfl rfl (fun hs_ => PF.mks rfl (by intro c hc; cases hc) rfl rfl (by simp [undef]) hs_) ?_
      first | refine e_fl rfl rfl (fun hs_ => PF.mkg rfl rfl rfl (v_loadI0 ty3 (hatj.mono Imm.leA) rfl rfl rfl) hs_) ?_ | refine e_fl rfl rfl (fun hs_ => PF.mkg rfl rfl rfl (v_loadI ty3 (hatj.mono Imm.leA) rfl rfl rfl) hs_) ?_ | refine e_fl rfl rfl (fun hs_ => PF.mks rfl (by intro c hc; cases hc) rfl rfl (by simp [undef]) hs_) ?_
      first | refine e_fl rfl rfl (fun hs_ => PF.mkg rfl rfl rfl (v_indexA Try.underlying26 sz49 rfl rfl) hs_) ?_ | refine e_fl rfl rfl (fun hs_ => PF.mkg rfl rfl rfl (v_indexIA Try.underlying26 sz49 rfl rfl) hs_) ?_ | refine e_fl rfl rfl (fun hs_ => PF.mks rfl (by intro c hc; cases hc) rfl rfl (by simp [undef]) hs_) ?_
      first | refine e_fl rfl rfl (fun hs_ => PF.mkg rfl rfl rfl (v_loadI0 ty49 (hatc.mono Imm.leA) rfl rfl rfl) hs_) ?_ | refine e_fl rfl rfl (fun hs_ => PF.mkg rfl rfl rfl (v_loadI ty49 (hatc.mono Imm.leA) rfl rfl rfl) hs_) ?_ | refine e_fl rfl rfl (fun hs_ => PF.mks rfl (by intro c hc; cases hc) rfl rfl (by simp [undef]) hs_) ?_
      refine e_eff rfl (by intro cs b hc; cases hc) (by intro c hc; cases hc) ?_
      first
        | (refine op_want rfl rfl ?_
           refine op_call pl141 rfl rfl ((weightL_does (x := c[k]) (hg.mono Imm.leA) ⟨la, lc, ra, rc, rfl, hl.mono Imm.leA, hr.mono Imm.leA⟩ hsk.1 hsk.2)) Parts.none ?_
           rintro v23 I23 _ hI23 ⟨rfl, rfl⟩)
        | (refine op_skip rfl rfl (by simp [undef]) rfl ?_)
      refine ops_nil ?_
      refine e_next rfl side_allA ?_
      refine e_eff rfl (by intro cs b hc; cases hc) (by intro c hc; cases hc) ?_
      first
        | (refine op_want rfl rfl ?_
           refine op_call pl141 rfl rfl ((weightL_does (x := c[j]) (hg.mono Imm.leA) ⟨ma, mc, na, nc, rfl, hjl.mono Imm.leA, hjr.mono Imm.leA⟩ hsj.1 hsj.2)) Parts.none ?_
           rintro v31 I31 _ hI31 ⟨rfl, rfl⟩)
        | (refine op_skip rfl rfl (by simp [undef]) rfl ?_)
      refine ops_nil ?_
      refine e_next rfl side_allA ?_
      first | refine e_fl rfl rfl (fun hs_ => PF.mkg rfl rfl rfl (v_cmptA rfl rfl rfl) hs_) ?_ | refine e_fl rfl rfl (fun hs_ => PF.mkg rfl rfl rfl (v_cmpfA rfl rfl rfl) hs_) ?_ | refine e_fl rfl rfl (fun hs_ => PF.mkg rfl rfl rfl (v_cmp rfl rfl rfl) hs_) ?_ | refine e_fl rfl rfl (fun hs_ => PF.mks rfl (by intro c hc; cases hc) rfl rfl (by simp [undef]) hs_) ?_
      first | refine e_fl rfl rfl (fun hs_ => PF.mk rfl (v_pickt rfl rfl) hs_) ?_ | refine e_fl rfl rfl (fun hs_ => PF.mk rfl (v_pickf rfl rfl) hs_) ?_ | refine e_fl rfl rfl (fun hs_ => PF.mk rfl (v_pickb rfl rfl rfl) hs_) ?_
      refine e_done ?_
      refine post_next ?_
      refine code_cond_f rfl ?_
      refine code_skip ?_
      refine post_out ?_
      refine post_next ?_
      refine code_region ?_
      first | refine op_v (v_addb rfl rfl rfl (by omega)) rfl ?_ | refine op_v (v_add rfl rfl) rfl ?_
      refine op_v (v_move rfl) rfl ?_
      refine ops_nil ?_
      refine PostJ.view (View.drop Del.here) ?_
      refine post_again (c.length - (k + 1)) [(0, vg), (1, .slice ad c.length c0), (5, vb), (11, .slice ad c.length c0), (12, .int .i64 c.length), (13, .int .i64 (k + 1 : Nat))] (by omega) ⟨k + 1, vb, rfl, hlt, rfl, Imm.leA, rfl, by rw [hb2]; exact hvb.mono Imm.leA⟩ ⟨rfl, rfl, rfl, rfl, rfl, rfl, trivial⟩
  · have hge : k = c.length := by simp at hc0; omega
    subst hge
    rw [bestL_end] at hvb
    refine code_exit ?_
    refine post_exit_then ?_
    refine post_exit_then ?_
    refine post_exit ?_
    refine post_next ?_
    refine code_seq ?_
    refine code_region ?_
    refine op_v (v_move rfl) rfl ?_
    refine op_v (v_assign rfl) rfl ?_
    refine ops_nil ?_
    refine post_next ?_
    refine code_ret ?_
    refine post_ret (rs := [.tmp 4]) rfl (List.Perm.refl _) (.cons (.tmp rfl) .nil) (List.nil_sublist _) ?_
    exact ⟨hvb, rfl⟩
end Go.Proofs.Ytdbadicpbmndbaa
/- Walks: what is selected, what may play a part; the example of maximal literals. -/
set_option linter.unusedVariables false
set_option linter.unusedSimpArgs false
set_option linter.unnecessarySimpa false
/- short -/
namespace Go.Proofs.Ytdbadicpbmndbaa
open Go Lg

theorem IdxIm11_does {I : Imm} {v : Value} {xs : List Int} {x : Int} (hv : RInts I v xs) :
    Does Try.prog 128 [v, .int .i64 x] I [] (fun v _ δ' => (∃ n : Int, v = .int .i64 n ∧ (0 ≤ n ↔ x ∈ xs)) ∧ δ' = []) := by
  obtain ⟨ad, c, xs, hc, hb, hat, hr⟩ := hv
  refine Does.intro Try.func128 rfl Try.ntmps128 rfl fun w0 => ?_
  refine code_seq ?_
  refine code_region ?_
  refine op_v (v_assign rfl) rfl ?_
  refine ops_nil ?_
  refine post_next ?_
  refine code_seq ?_
  refine code_seq ?_
  refine code_region ?_
  refine op_v (v_move rfl) rfl ?_
  refine op_v (v_len Try.underlying62 rfl) rfl ?_
  refine op_v (v_move rfl) rfl ?_
  refine ops_nil ?_
  refine post_next ?_
  refine code_block ?_
  refine code_loop (fun m σ' I' δ' => ∃ k : Nat, m = xs.length - k ∧ σ' = [(0, .slice ad xs.length c), (1, .int .i64 x), (7, .int .i64 xs.length), (8, .int .i64 k)] ∧ I' = I ∧ δ' = ([] : List Ent) ∧ k ≤ xs.length ∧ x ∉ xs.take k) (xs.length - 0) [(0, .slice ad xs.length c), (1, .int .i64 x), (7, .int .i64 xs.length), (8, .int .i64 (0 : Nat))] ⟨0, rfl, rfl, rfl, rfl, ⟨Nat.zero_le _, by simp⟩⟩ ⟨rfl, rfl, rfl, rfl, trivial⟩ ?_
  rintro m _ _ _ ⟨k, rfl, rfl, rfl, rfl, hp⟩
  obtain ⟨hk, hp⟩ := hp
  refine code_seq ?_
  refine code_region ?_
  first | refine op_v (v_cmptA rfl rfl rfl) rfl ?_ | refine op_v (v_cmpfA rfl rfl rfl) rfl ?_ | refine op_v (v_cmp rfl rfl rfl) rfl ?_
  refine ops_nil ?_
  refine post_next ?_
  refine code_seq ?_
  refine code_cond rfl (fun hc0 => ?_) (fun hc0 => ?_)
  · have hlt : k < xs.length := by simpa using hc0
    have hs1 := ints_some hat k hlt
    refine code_skip ?_
    refine post_next ?_
    refine code_seq ?_
    refine code_block ?_
    refine code_seq ?_
    refine code_region ?_
    refine op_v (v_move rfl) rfl ?_
    refine op_v (v_assign rfl) rfl ?_
    refine ops_nil ?_
    refine post_next ?_
    refine code_seq ?_
    refine code_region ?_
    refine op_v (v_move rfl) rfl ?_
    refine op_v (v_move rfl) rfl ?_
    refine op_v (v_move rfl) rfl ?_
    first | refine op_v (v_indexA Try.underlying62 sz3 rfl rfl) rfl ?_ | refine op_v (v_indexIA Try.underlying62 sz3 rfl rfl) rfl ?_
    first | refine op_v (v_loadI0 ty3 ((ints_at hat k hlt)) rfl rfl rfl) rfl ?_ | refine op_v (v_loadI ty3 ((ints_at hat k hlt)) rfl rfl rfl) rfl ?_
    first | refine op_v (v_cmptA rfl rfl rfl) rfl ?_ | refine op_v (v_cmpfA rfl rfl rfl) rfl ?_ | refine op_v (v_cmp rfl rfl rfl) rfl ?_
    refine ops_nil ?_
    refine post_next ?_
    refine code_cond rfl (fun hc1 => ?_) (fun hc1 => ?_)
    · have heq : x = xs[k] := by simpa using hc1
      refine code_seq ?_
      refine code_region ?_
      refine op_v (v_move rfl) rfl ?_
      refine op_v (v_assign rfl) rfl ?_
      refine ops_nil ?_
      refine post_next ?_
      refine code_ret ?_
      refine post_ret_block ?_
      refine post_ret_then ?_
      refine post_ret_then ?_
      refine post_ret_block ?_
      refine post_ret_then ?_
      refine post_ret (rs := [.tmp 4]) rfl (List.Perm.refl _) (.cons (.tmp rfl) .nil) (List.nil_sublist _) ?_
      exact ⟨⟨k, rfl, by rw [heq]; simp⟩, rfl⟩
    · have hne : x ≠ xs[k] := by simpa using hc1
      refine code_skip ?_
      refine post_out ?_
      refine post_next ?_
      refine code_region ?_
      first | refine op_v (v_addb rfl rfl rfl (by omega)) rfl ?_ | refine op_v (v_add rfl rfl) rfl ?_
      refine op_v (v_move rfl) rfl ?_
      refine ops_nil ?_
      refine post_again (xs.length - (k + 1)) [(0, .slice ad xs.length c), (1, .int .i64 x), (7, .int .i64 xs.length), (8, .int .i64 (k + 1 : Nat))] (by omega) ⟨k + 1, rfl, rfl, rfl, rfl, ⟨hlt, by rw [List.take_succ_eq_append_getElem hlt, List.mem_append, List.mem_singleton]; exact fun h => h.elim hp hne⟩⟩ ⟨rfl, rfl, rfl, rfl, trivial⟩
  · have hge : k = xs.length := by simp at hc0; omega
    subst hge
    rw [List.take_length] at hp
    refine code_exit ?_
    refine post_exit_then ?_
    refine post_exit_then ?_
    refine post_exit ?_
    refine post_next ?_
    refine code_seq ?_
    refine code_region ?_
    refine op_v (v_assign rfl) rfl ?_
    refine ops_nil ?_
    refine post_next ?_
    refine code_ret ?_
    refine post_ret (rs := [.tmp 4]) rfl (List.Perm.refl _) (.cons (.tmp rfl) .nil) (List.nil_sublist _) ?_
    exact ⟨⟨-1, rfl, by simp [hp]⟩, rfl⟩
theorem ContR_does {I : Imm} {v : Value} {xs : List Int} {x : Int} (hv : RInts I v xs) :
    Does Try.prog 92 [v, .int .i64 x] I [] (fun v _ δ' => v = .bool (decide (x ∈ xs)) ∧ δ' = []) := by
  refine Does.intro Try.func92 rfl Try.ntmps92 rfl fun w0 => ?_
  refine code_seq ?_
  refine code_region ?_
  refine op_v (v_assign rfl) rfl ?_
  refine ops_nil ?_
  refine post_next ?_
  refine code_seq ?_
  refine code_region ?_
  refine op_v (v_move rfl) rfl ?_
  refine op_v (v_move rfl) rfl ?_
  refine op_call pl128 rfl rfl ((IdxIm11_does hv)) Parts.none ?_
  rintro v7 I7 _ hI7 ⟨⟨n, rfl, hn⟩, rfl⟩
  refine op_v (v_cmp (z := decide (x ∈ xs)) rfl rfl (by simp only [cmpI, hn])) rfl ?_
  refine op_v (v_assign rfl) rfl ?_
  refine ops_nil ?_
  refine post_next ?_
  refine code_ret ?_
  refine post_ret (rs := [.tmp 4]) rfl (List.Perm.refl _) (.cons (.tmp rfl) .nil) (List.nil_sublist _) ?_
  exact ⟨rfl, rfl⟩
def selE (gs : List Sy) (c : List Li) (how : Int) : Int := if chkC gs c ≠ 0 then chkC gs c else if how < 0 ∨ 3 ≤ how then 1 else 0
def selR (gs : List Sy) (c : List Li) (how : Int) : List Int := if selE gs c how = 0 then selG gs c how else []
theorem Select_does {I : Imm} {vg va : Value} {gs : List Sy} {c : List Li} {how : Int} (hg : RepG I vg gs) (hv : RepC I va c) (hsm : SmC c) :
    Does Try.prog 50 [vg, va, .int .i64 how] I [] (fun v I' δ' => (∃ u, v = .tuple #[u, .int .i64 (selE gs c how)] ∧ RInts I' u (selR gs c how)) ∧ δ' = []) := by
  refine Does.intro Try.func50 rfl Try.ntmps50 rfl fun w0 => ?_
  refine code_seq ?_
  refine code_region ?_
  refine op_v (v_assign rfl) rfl ?_
  refine op_v (v_assign rfl) rfl ?_
  refine ops_nil ?_
  refine post_next ?_
  refine code_seq ?_
  refine code_seq ?_
  refine code_region ?_
  refine op_v (v_move rfl) rfl ?_
  refine op_v (v_move rfl) rfl ?_
  refine op_call pl46 rfl rfl ((CCheck_does hg hv hsm)) Parts.none ?_
  rintro v12 I12 _ hI12 ⟨rfl, rfl⟩
  refine op_v (v_assign rfl) rfl ?_
  refine ops_nil ?_
  refine post_next ?_
  refine code_seq ?_
  refine code_region ?_
  refine op_v (v_move rfl) rfl ?_
  by_cases h14 : chkC gs c ≠ 0
  · have he : selE gs c how = chkC gs c := if_pos h14
    first | refine op_v (v_cmptA rfl rfl rfl) rfl ?_ | refine op_v (v_cmpfA rfl rfl rfl) rfl ?_ | refine op_v (v_cmp rfl rfl rfl) rfl ?_
    refine ops_nil ?_
    refine post_next ?_
    refine code_cond_t rfl ?_
    refine code_seq ?_
    refine code_region ?_
    refine op_v (v_move rfl) rfl ?_
    refine op_v (v_assign rfl) rfl ?_
    refine op_v (v_assign rfl) rfl ?_
    refine ops_nil ?_
    refine post_next ?_
    refine code_ret ?_
    refine post_ret_then ?_
    refine post_ret (rs := [.tmp 6, .tmp 7]) rfl (List.Perm.refl _) (.cons (.tmp rfl) (.cons (.tmp rfl) .nil)) (List.nil_sublist _) ?_
    exact ⟨⟨_, by rw [he]; rfl, by unfold selR; rw [he, if_neg h14]; exact RInts.nil _⟩, rfl⟩
  · first | refine op_v (v_cmptA rfl rfl rfl) rfl ?_ | refine op_v (v_cmpfA rfl rfl rfl) rfl ?_ | refine op_v (v_cmp rfl rfl rfl) rfl ?_
    refine ops_nil ?_
    refine post_next ?_
    refine code_cond_f rfl ?_
    refine code_skip ?_
    refine post_next ?_
    refine code_seq ?_
    refine code_seq ?_
    refine code_region ?_
    refine op_v (v_move rfl) rfl ?_
    by_cases h17 : how < 0
    · have he : selE gs c how = 1 := by unfold selE; rw [if_neg h14, if_pos (.inl h17)]
      first | refine op_v (v_cmptA rfl rfl rfl) rfl ?_ | refine op_v (v_cmpfA rfl rfl rfl) rfl ?_ | refine op_v (v_cmp rfl rfl rfl) rfl ?_
      refine op_v (v_move rfl) rfl ?_
      first
        | (refine op_want rfl rfl ?_
           refine op_v (v_move rfl) rfl ?_)
        | (refine op_skip rfl rfl (by simp [undef]) rfl ?_)
      first
        | (refine op_want rfl rfl ?_
           first | refine op_v (v_cmptA rfl rfl rfl) rfl ?_ | refine op_v (v_cmpfA rfl rfl rfl) rfl ?_ | refine op_v (v_cmp rfl rfl rfl) rfl ?_)
        | (refine op_skip rfl rfl (by simp [undef]) rfl ?_)
      first | refine op_v (v_pickt rfl rfl) rfl ?_ | refine op_v (v_pickf rfl rfl) rfl ?_ | refine op_v (v_pickb rfl rfl rfl) rfl ?_
      refine ops_nil ?_
      refine post_next ?_
      refine code_cond_t rfl ?_
      refine code_seq ?_
      refine code_region ?_
      refine op_v (v_assign rfl) rfl ?_
      refine op_v (v_assign rfl) rfl ?_
      refine ops_nil ?_
      refine post_next ?_
      refine code_ret ?_
      refine post_ret_then ?_
      refine post_ret (rs := [.tmp 6, .tmp 7]) rfl (List.Perm.refl _) (.cons (.tmp rfl) (.cons (.tmp rfl) .nil)) (List.nil_sublist _) ?_
      exact ⟨⟨_, by rw [he]; rfl, by unfold selR; rw [he, if_neg (by decide)]; exact RInts.nil _⟩, rfl⟩
    · first | refine op_v (v_cmptA rfl rfl rfl) rfl ?_ | refine op_v (v_cmpfA rfl rfl rfl) rfl ?_ | refine op_v (v_cmp rfl rfl rfl) rfl ?_
      refine op_v (v_move rfl) rfl ?_
      first
        | (refine op_want rfl rfl ?_
           refine op_v (v_move rfl) rfl ?_)
        | (refine op_skip rfl rfl (by simp [undef]) rfl ?_)
      by_cases h20 : 3 ≤ how
      · have he : selE gs c how = 1 := by unfold selE; rw [if_neg h14, if_pos (.inr h20)]
        first
          | (refine op_want rfl rfl ?_
             first | refine op_v (v_cmptA rfl rfl rfl) rfl ?_ | refine op_v (v_cmpfA rfl rfl rfl) rfl ?_ | refine op_v (v_cmp rfl rfl rfl) rfl ?_)
          | (refine op_skip rfl rfl (by simp [undef]) rfl ?_)
        first | refine op_v (v_pickt rfl rfl) rfl ?_ | refine op_v (v_pickf rfl rfl) rfl ?_ | refine op_v (v_pickb rfl rfl rfl) rfl ?_
        refine ops_nil ?_
        refine post_next ?_
        refine code_cond_t rfl ?_
        refine code_seq ?_
        refine code_region ?_
        refine op_v (v_assign rfl) rfl ?_
        refine op_v (v_assign rfl) rfl ?_
        refine ops_nil ?_
        refine post_next ?_
        refine code_ret ?_
        refine post_ret_then ?_
        refine post_ret (rs := [.tmp 6, .tmp 7]) rfl (List.Perm.refl _) (.cons (.tmp rfl) (.cons (.tmp rfl) .nil)) (List.nil_sublist _) ?_
        exact ⟨⟨_, by rw [he]; rfl, by unfold selR; rw [he, if_neg (by decide)]; exact RInts.nil _⟩, rfl⟩
      · have he : selE gs c how = 0 := by unfold selE; rw [if_neg h14, if_neg (fun h => by rcases h with h | h; exact h17 h; exact h20 h)]
        first
          | (refine op_want rfl rfl ?_
             first | refine op_v (v_cmptA rfl rfl rfl) rfl ?_ | refine op_v (v_cmpfA rfl rfl rfl) rfl ?_ | refine op_v (v_cmp rfl rfl rfl) rfl ?_)
          | (refine op_skip rfl rfl (by simp [undef]) rfl ?_)
        first | refine op_v (v_pickt rfl rfl) rfl ?_ | refine op_v (v_pickf rfl rfl) rfl ?_ | refine op_v (v_pickb rfl rfl rfl) rfl ?_
        refine ops_nil ?_
        refine post_next ?_
        refine code_cond_f rfl ?_
        refine code_skip ?_
        refine post_next ?_
        refine code_seq ?_
        refine code_region ?_
        refine op_v (v_buildK (v := .agg #[.func (.func 99) #[] #[], .func (.func 100) #[] #[], .func (.func 101) #[] #[]]) rfl (fun _ => by kernel_rfl)) rfl ?_
        refine o_alloc z121 rfl rfl (fun b9 => ?_)
        refine o_store ty121 rfl rfl rfl rfl rfl (by repeat (first | exact Swap.here | apply Swap.there)) rfl ?_
        refine ops_nil ?_
        refine post_next ?_
        refine code_seq ?_
        refine code_region ?_
        by_cases q0 : how = 0
        · subst q0
          refine op_v (v_move rfl) rfl ?_
          refine op_v (v_indexArr (i := 0) Try.underlying121 sz120 rfl rfl (by omega)) rfl ?_
          refine op_v (v_loadA ty120 rfl rfl) rfl ?_
          refine op_v (v_move rfl) rfl ?_
          refine op_v (v_move rfl) rfl ?_
          refine op_fcall rfl rfl rfl ((Does.toF (args := [_, _]) (by kernel_rfl) (none_does (gs := gs) (c := c)))) Parts.none ?_
          rintro v28 I28 _ hI28 ⟨hv28, rfl⟩
          refine op_v (v_assign rfl) rfl ?_
          refine op_v (v_assign rfl) rfl ?_
          refine ops_nil ?_
          refine post_next ?_
          refine code_ret ?_
          refine post_ret (rs := [.tmp 6, .tmp 7]) rfl (List.Perm.refl _) (.cons (.tmp rfl) (.cons (.tmp rfl) .nil)) (List.nil_sublist _) ?_
          exact ⟨⟨_, by rw [he]; rfl, by unfold selR; rw [he, if_pos rfl]; exact hv28⟩, rfl⟩
        · refine op_v (v_move rfl) rfl ?_
          by_cases q1 : how = 1
          · subst q1
            refine op_v (v_indexArr (i := 1) Try.underlying121 sz120 rfl rfl (by omega)) rfl ?_
            refine op_v (v_loadA ty120 rfl rfl) rfl ?_
            refine op_v (v_move rfl) rfl ?_
            refine op_v (v_move rfl) rfl ?_
            refine op_fcall rfl rfl rfl ((Does.toF (args := [_, _]) (by kernel_rfl) (first_doesM (hv.mono Imm.leA)))) Parts.none ?_
            rintro v28 I28 _ hI28 ⟨hv28, rfl⟩
            refine op_v (v_assign rfl) rfl ?_
            refine op_v (v_assign rfl) rfl ?_
            refine ops_nil ?_
            refine post_next ?_
            refine code_ret ?_
            refine post_ret (rs := [.tmp 6, .tmp 7]) rfl (List.Perm.refl _) (.cons (.tmp rfl) (.cons (.tmp rfl) .nil)) (List.nil_sublist _) ?_
            exact ⟨⟨_, by rw [he]; rfl, by unfold selR; rw [he, if_pos rfl, selG_first]; exact hv28⟩, rfl⟩
          · have q2 : how = 2 := by omega
            subst q2
            refine op_v (v_indexArr (i := 2) Try.underlying121 sz120 rfl rfl (by omega)) rfl ?_
            refine op_v (v_loadA ty120 rfl rfl) rfl ?_
            refine op_v (v_move rfl) rfl ?_
            refine op_v (v_move rfl) rfl ?_
            refine op_fcall rfl rfl rfl ((Does.toF (args := [_, _]) (by kernel_rfl) (heavy_does (hg.mono Imm.leA) (hv.mono Imm.leA) hsm))) Parts.none ?_
            rintro v28 I28 _ hI28 ⟨hv28, rfl⟩
            refine op_v (v_assign rfl) rfl ?_
            refine op_v (v_assign rfl) rfl ?_
            refine ops_nil ?_
            refine post_next ?_
            refine code_ret ?_
            refine post_ret (rs := [.tmp 6, .tmp 7]) rfl (List.Perm.refl _) (.cons (.tmp rfl) (.cons (.tmp rfl) .nil)) (List.nil_sublist _) ?_
            exact ⟨⟨_, by rw [he]; rfl, by unfold selR; rw [he, if_pos rfl]; exact hv28⟩, rfl⟩
def mayB (gs : List Sy) (c d : List Li) (how i : Int) : Bool := if 0 < (selG gs c how).length then decide (i ∈ selG gs c how) else topG gs d i.toNat (!(c.getD i.toNat zeroLi).neg)
def MayH (gs : List Sy) (c : List Li) (how i : Int) (bs : List Bi) (b : Bool) (e : Int) : Prop :=
  (selE gs c how ≠ 0 ∧ e = selE gs c how ∧ b = false) ∨ (selE gs c how = 0 ∧ (((i < 0 ∨ (c.length : Int) ≤ i) ∧ e = 1 ∧ b = false) ∨ (¬ (i < 0 ∨ (c.length : Int) ≤ i) ∧ ∃ e1 d, OutC bs c e1 d ∧ ((e1 ≠ 0 ∧ e = e1 ∧ b = false) ∨ (e1 = 0 ∧ ((chkC gs d ≠ 0 ∧ e = chkC gs d ∧ b = false) ∨ (chkC gs d = 0 ∧ e = 0 ∧ b = mayB gs c d how i)))))))
theorem MayH.eq {gs : List Sy} {c : List Li} {how i : Int} {bs : List Bi} {a b : Bool} {e f : Int} (h : MayH gs c how i bs a e) (k : MayH gs c how i bs b f) : a = b ∧ e = f := by
  rcases h with ⟨h1, rfl, rfl⟩ | ⟨h1, ⟨h2, rfl, rfl⟩ | ⟨h2, e1, d, ho, h3⟩⟩ <;> rcases k with ⟨k1, rfl, rfl⟩ | ⟨k1, ⟨k2, rfl, rfl⟩ | ⟨k2, f1, d2, ko, k3⟩⟩
  · exact ⟨rfl, rfl⟩
  · exact absurd k1 h1
  · exact absurd k1 h1
  · exact absurd h1 k1
  · exact ⟨rfl, rfl⟩
  · exact absurd h2 k2
  · exact absurd h1 k1
  · exact absurd k2 h2
  · obtain ⟨rfl, rfl⟩ := ho.eq ko
    rcases h3 with ⟨h3, rfl, rfl⟩ | ⟨h3, ⟨h4, rfl, rfl⟩ | ⟨h4, rfl, rfl⟩⟩ <;> rcases k3 with ⟨k3, rfl, rfl⟩ | ⟨k3, ⟨k4, rfl, rfl⟩ | ⟨k4, rfl, rfl⟩⟩
    · exact ⟨rfl, rfl⟩
    · exact absurd k3 h3
    · exact absurd k3 h3
    · exact absurd h3 k3
    · exact ⟨rfl, rfl⟩
    · exact absurd k4 h4
    · exact absurd h3 k3
    · exact absurd h4 k4
    · exact ⟨rfl, rfl⟩
theorem OutC.len0 {bs : List Bi} {c ys : List Li} (h : OutC bs c 0 ys) : ys.length = c.length ∧ ∀ i (h : i < c.length) (h2 : i < ys.length), OutL bs c[i] 0 ys[i] := by
  rcases h with ⟨_, h, _⟩ | ⟨_, ⟨_, _, _, _, _, _, h, _⟩ | ⟨_, hl, hall⟩⟩
  · cases h
  · exact absurd rfl h
  · exact ⟨hl, hall⟩
theorem May_does {I : Imm} {vg va vs : Value} {gs : List Sy} {c : List Li} {how i : Int} {bs : List Bi} (hg : RepG I vg gs) (hv : RepC I va c) (hs : RepB I vs bs) (hbs : ∀ b ∈ bs, b.2.size ≤ 500) (hsz : ∀ x ∈ c, x.l.size ≤ 500 ∧ x.r.size ≤ 500) :
    Does Try.prog 51 [vg, va, .int .i64 how, .int .i64 i, vs] I [] (fun v _ δ' => (∃ b e, v = .tuple #[.bool b, .int .i64 e] ∧ MayH gs c how i bs b e) ∧ δ' = []) := by
  have hsm : SmC c := fun x hx => by have := hsz x hx; omega
  obtain ⟨ad, c0, xs, rfl, hc, hb, hcells, hrow⟩ := id hv
  refine Does.intro Try.func51 rfl Try.ntmps51 rfl fun w0 => ?_
  refine code_seq ?_
  refine code_region ?_
  refine op_v (v_assign rfl) rfl ?_
  refine op_v (v_assign rfl) rfl ?_
  refine ops_nil ?_
  refine post_next ?_
  refine code_seq ?_
  refine code_region ?_
  refine op_v (v_move rfl) rfl ?_
  refine op_v (v_move rfl) rfl ?_
  refine op_v (v_move rfl) rfl ?_
  refine op_call pl50 rfl rfl ((Select_does hg hv hsm)) Parts.none ?_
  rintro v20 I20 _ hI20 ⟨⟨u20, rfl, hu20⟩, rfl⟩
  refine op_v (v_move rfl) rfl ?_
  refine op_v (v_extract rfl rfl) rfl ?_
  refine op_v (v_extract rfl rfl) rfl ?_
  refine op_v (v_assign rfl) rfl ?_
  refine op_v (v_assign rfl) rfl ?_
  refine ops_nil ?_
  refine post_next ?_
  refine code_seq ?_
  refine code_seq ?_
  refine code_region ?_
  refine op_v (v_move rfl) rfl ?_
  by_cases h24 : selE gs c how ≠ 0
  · first | refine op_v (v_cmptA rfl rfl rfl) rfl ?_ | refine op_v (v_cmpfA rfl rfl rfl) rfl ?_ | refine op_v (v_cmp rfl rfl rfl) rfl ?_
    refine ops_nil ?_
    refine post_next ?_
    refine code_cond_t rfl ?_
    refine code_seq ?_
    refine code_region ?_
    refine op_v (v_move rfl) rfl ?_
    refine op_v (v_assign rfl) rfl ?_
    refine op_v (v_assign rfl) rfl ?_
    refine ops_nil ?_
    refine post_next ?_
    refine code_ret ?_
    refine post_ret_then ?_
    refine post_ret (rs := [.tmp 10, .tmp 11]) rfl (List.Perm.refl _) (.cons (.tmp rfl) (.cons (.tmp rfl) .nil)) (List.nil_sublist _) ?_
    exact ⟨⟨_, _, rfl, .inl ⟨h24, rfl, rfl⟩⟩, rfl⟩
  · have he : selE gs c how = 0 := Classical.not_not.1 h24
    unfold selR at hu20
    rw [if_pos he] at hu20
    first | refine op_v (v_cmptA rfl rfl rfl) rfl ?_ | refine op_v (v_cmpfA rfl rfl rfl) rfl ?_ | refine op_v (v_cmp rfl rfl rfl) rfl ?_
    refine ops_nil ?_
    refine post_next ?_
    refine code_cond_f rfl ?_
    refine code_skip ?_
    refine post_next ?_
    refine code_seq ?_
    refine code_seq ?_
    refine code_region ?_
    refine op_v (v_move rfl) rfl ?_
    by_cases h27 : i < 0
    · first | refine op_v (v_cmptA rfl rfl rfl) rfl ?_ | refine op_v (v_cmpfA rfl rfl rfl) rfl ?_ | refine op_v (v_cmp rfl rfl rfl) rfl ?_
      refine op_v (v_move rfl) rfl ?_
      first
        | (refine op_want rfl rfl ?_
           refine op_v (v_move rfl) rfl ?_)
        | (refine op_skip rfl rfl (by simp [undef]) rfl ?_)
      first
        | (refine op_want rfl rfl ?_
           refine op_v (v_move rfl) rfl ?_)
        | (refine op_skip rfl rfl (by simp [undef]) rfl ?_)
      first
        | (refine op_want rfl rfl ?_
           refine op_v (v_len Try.underlying26 rfl) rfl ?_)
        | (refine op_skip rfl rfl (by simp [undef]) rfl ?_)
      first
        | (refine op_want rfl rfl ?_
           first | refine op_v (v_cmptA rfl rfl rfl) rfl ?_ | refine op_v (v_cmpfA rfl rfl rfl) rfl ?_ | refine op_v (v_cmp rfl rfl rfl) rfl ?_)
        | (refine op_skip rfl rfl (by simp [undef]) rfl ?_)
      first | refine op_v (v_pickt rfl rfl) rfl ?_ | refine op_v (v_pickf rfl rfl) rfl ?_ | refine op_v (v_pickb rfl rfl rfl) rfl ?_
      refine ops_nil ?_
      refine post_next ?_
      refine code_cond_t rfl ?_
      refine code_seq ?_
      refine code_region ?_
      refine op_v (v_assign rfl) rfl ?_
      refine op_v (v_assign rfl) rfl ?_
      refine ops_nil ?_
      refine post_next ?_
      refine code_ret ?_
      refine post_ret_then ?_
      refine post_ret (rs := [.tmp 10, .tmp 11]) rfl (List.Perm.refl _) (.cons (.tmp rfl) (.cons (.tmp rfl) .nil)) (List.nil_sublist _) ?_
      exact ⟨⟨_, _, rfl, .inr ⟨he, .inl ⟨.inl h27, rfl, rfl⟩⟩⟩, rfl⟩
    · first | refine op_v (v_cmptA rfl rfl rfl) rfl ?_ | refine op_v (v_cmpfA rfl rfl rfl) rfl ?_ | refine op_v (v_cmp rfl rfl rfl) rfl ?_
      refine op_v (v_move rfl) rfl ?_
      first
        | (refine op_want rfl rfl ?_
           refine op_v (v_move rfl) rfl ?_)
        | (refine op_skip rfl rfl (by simp [undef]) rfl ?_)
      first
        | (refine op_want rfl rfl ?_
           refine op_v (v_move rfl) rfl ?_)
        | (refine op_skip rfl rfl (by simp [undef]) rfl ?_)
      first
        | (refine op_want rfl rfl ?_
           refine op_v (v_len Try.underlying26 rfl) rfl ?_)
        | (refine op_skip rfl rfl (by simp [undef]) rfl ?_)
      by_cases h32 : (c.length : Int) ≤ i
      · first
          | (refine op_want rfl rfl ?_
             first | refine op_v (v_cmptA rfl rfl rfl) rfl ?_ | refine op_v (v_cmpfA rfl rfl rfl) rfl ?_ | refine op_v (v_cmp rfl rfl rfl) rfl ?_)
          | (refine op_skip rfl rfl (by simp [undef]) rfl ?_)
        first | refine op_v (v_pickt rfl rfl) rfl ?_ | refine op_v (v_pickf rfl rfl) rfl ?_ | refine op_v (v_pickb rfl rfl rfl) rfl ?_
        refine ops_nil ?_
        refine post_next ?_
        refine code_cond_t rfl ?_
        refine code_seq ?_
        refine code_region ?_
        refine op_v (v_assign rfl) rfl ?_
        refine op_v (v_assign rfl) rfl ?_
        refine ops_nil ?_
        refine post_next ?_
        refine code_ret ?_
        refine post_ret_then ?_
        refine post_ret (rs := [.tmp 10, .tmp 11]) rfl (List.Perm.refl _) (.cons (.tmp rfl) (.cons (.tmp rfl) .nil)) (List.nil_sublist _) ?_
        exact ⟨⟨_, _, rfl, .inr ⟨he, .inl ⟨.inr h32, rfl, rfl⟩⟩⟩, rfl⟩
      · have hin : ¬ (i < 0 ∨ (c.length : Int) ≤ i) := fun h => by rcases h with h | h; exact h27 h; exact h32 h
        obtain ⟨n, hn⟩ := Int.eq_ofNat_of_zero_le (show 0 ≤ i by omega)
        subst hn
        have hnl : n < c.length := by omega
        obtain ⟨vn, ⟨la, lc, ra, rc, rfl, hnL, hnR⟩, hatn⟩ := hrow.cellsAt hcells hnl
        have hs1 := hatn.isSome
        first
          | (refine op_want rfl rfl ?_
             first | refine op_v (v_cmptA rfl rfl rfl) rfl ?_ | refine op_v (v_cmpfA rfl rfl rfl) rfl ?_ | refine op_v (v_cmp rfl rfl rfl) rfl ?_)
          | (refine op_skip rfl rfl (by simp [undef]) rfl ?_)
        first | refine op_v (v_pickt rfl rfl) rfl ?_ | refine op_v (v_pickf rfl rfl) rfl ?_ | refine op_v (v_pickb rfl rfl rfl) rfl ?_
        refine ops_nil ?_
        refine post_next ?_
        refine code_cond_f rfl ?_
        refine code_skip ?_
        refine post_next ?_
        refine code_seq ?_
        refine code_region ?_
        refine op_v (v_move rfl) rfl ?_
        refine op_v (v_move rfl) rfl ?_
        refine op_call pl36 rfl rfl ((CApply_does (hs.mono Imm.leA) (hv.mono Imm.leA) hbs hsz)) Parts.none ?_
        rintro v37 I37 _ hI37 ⟨⟨e1, d, r37, rfl, hr37, ho⟩, rfl⟩
        have hdm := ho.sm
        refine op_v (v_move rfl) rfl ?_
        refine op_v (v_extract rfl rfl) rfl ?_
        refine op_v (v_extract rfl rfl) rfl ?_
        refine op_v (v_assign rfl) rfl ?_
        refine op_v (v_assign rfl) rfl ?_
        refine ops_nil ?_
        refine post_next ?_
        refine code_seq ?_
        refine code_seq ?_
        refine code_region ?_
        refine op_v (v_move rfl) rfl ?_
        by_cases h41 : e1 ≠ 0
        · first | refine op_v (v_cmptA rfl rfl rfl) rfl ?_ | refine op_v (v_cmpfA rfl rfl rfl) rfl ?_ | refine op_v (v_cmp rfl rfl rfl) rfl ?_
          refine ops_nil ?_
          refine post_next ?_
          refine code_cond_t rfl ?_
          refine code_seq ?_
          refine code_region ?_
          refine op_v (v_move rfl) rfl ?_
          refine op_v (v_assign rfl) rfl ?_
          refine op_v (v_assign rfl) rfl ?_
          refine ops_nil ?_
          refine post_next ?_
          refine code_ret ?_
          refine post_ret_then ?_
          refine post_ret (rs := [.tmp 10, .tmp 11]) rfl (List.Perm.refl _) (.cons (.tmp rfl) (.cons (.tmp rfl) .nil)) (List.nil_sublist _) ?_
          exact ⟨⟨_, _, rfl, .inr ⟨he, .inr ⟨hin, e1, d, ho, .inl ⟨h41, rfl, rfl⟩⟩⟩⟩, rfl⟩
        · have he1 : e1 = 0 := Classical.not_not.1 h41
          subst he1
          have hdl := ho.len0.1
          first | refine op_v (v_cmptA rfl rfl rfl) rfl ?_ | refine op_v (v_cmpfA rfl rfl rfl) rfl ?_ | refine op_v (v_cmp rfl rfl rfl) rfl ?_
          refine ops_nil ?_
          refine post_next ?_
          refine code_cond_f rfl ?_
          refine code_skip ?_
          refine post_next ?_
          refine code_seq ?_
          refine code_seq ?_
          refine code_region ?_
          refine op_v (v_move rfl) rfl ?_
          refine op_v (v_move rfl) rfl ?_
          refine op_call pl46 rfl rfl ((CCheck_does (hg.mono Imm.leA) hr37 hdm)) Parts.none ?_
          rintro v45 I45 _ hI45 ⟨rfl, rfl⟩
          refine op_v (v_assign rfl) rfl ?_
          refine ops_nil ?_
          refine post_next ?_
          refine code_seq ?_
          refine code_region ?_
          refine op_v (v_move rfl) rfl ?_
          by_cases h47 : chkC gs d ≠ 0
          · first | refine op_v (v_cmptA rfl rfl rfl) rfl ?_ | refine op_v (v_cmpfA rfl rfl rfl) rfl ?_ | refine op_v (v_cmp rfl rfl rfl) rfl ?_
            refine ops_nil ?_
            refine post_next ?_
            refine code_cond_t rfl ?_
            refine code_seq ?_
            refine code_region ?_
            refine op_v (v_move rfl) rfl ?_
            refine op_v (v_assign rfl) rfl ?_
            refine op_v (v_assign rfl) rfl ?_
            refine ops_nil ?_
            refine post_next ?_
            refine code_ret ?_
            refine post_ret_then ?_
            refine post_ret (rs := [.tmp 10, .tmp 11]) rfl (List.Perm.refl _) (.cons (.tmp rfl) (.cons (.tmp rfl) .nil)) (List.nil_sublist _) ?_
            exact ⟨⟨_, _, rfl, .inr ⟨he, .inr ⟨hin, 0, d, ho, .inr ⟨rfl, .inl ⟨h47, rfl, rfl⟩⟩⟩⟩⟩, rfl⟩
          · have hd0 : chkC gs d = 0 := Classical.not_not.1 h47
            obtain ⟨ua, uc, hsh⟩ := hu20.shape
            subst hsh
            first | refine op_v (v_cmptA rfl rfl rfl) rfl ?_ | refine op_v (v_cmpfA rfl rfl rfl) rfl ?_ | refine op_v (v_cmp rfl rfl rfl) rfl ?_
            refine ops_nil ?_
            refine post_next ?_
            refine code_cond_f rfl ?_
            refine code_skip ?_
            refine post_next ?_
            refine code_seq ?_
            refine code_seq ?_
            refine code_region ?_
            refine op_v (v_move rfl) rfl ?_
            refine op_v (v_len Try.underlying62 rfl) rfl ?_
            by_cases h51 : 0 < (selG gs c how).length
            · first | refine op_v (v_cmptA rfl rfl rfl) rfl ?_ | refine op_v (v_cmpfA rfl rfl rfl) rfl ?_ | refine op_v (v_cmp rfl rfl rfl) rfl ?_
              refine ops_nil ?_
              refine post_next ?_
              refine code_cond_t rfl ?_
              refine code_seq ?_
              refine code_region ?_
              refine op_v (v_move rfl) rfl ?_
              refine op_v (v_move rfl) rfl ?_
              refine op_call pl92 rfl rfl ((ContR_does (hu20.mono Imm.leA) (x := (n : Int)))) Parts.none ?_
              rintro v54 I54 _ hI54 ⟨rfl, rfl⟩
              refine op_v (v_assign rfl) rfl ?_
              refine op_v (v_assign rfl) rfl ?_
              refine ops_nil ?_
              refine post_next ?_
              refine code_ret ?_
              refine post_ret_then ?_
              refine post_ret (rs := [.tmp 10, .tmp 11]) rfl (List.Perm.refl _) (.cons (.tmp rfl) (.cons (.tmp rfl) .nil)) (List.nil_sublist _) ?_
              exact ⟨⟨_, _, rfl, .inr ⟨he, .inr ⟨hin, 0, d, ho, .inr ⟨rfl, .inr ⟨hd0, rfl, by unfold mayB; rw [if_pos h51]⟩⟩⟩⟩⟩, rfl⟩
            · first | refine op_v (v_cmptA rfl rfl rfl) rfl ?_ | refine op_v (v_cmpfA rfl rfl rfl) rfl ?_ | refine op_v (v_cmp rfl rfl rfl) rfl ?_
              refine ops_nil ?_
              refine post_next ?_
              refine code_cond_f rfl ?_
              refine code_skip ?_
              refine post_next ?_
              refine code_seq ?_
              refine code_region ?_
              refine op_v (v_move rfl) rfl ?_
              refine op_v (v_move rfl) rfl ?_
              refine op_v (v_move rfl) rfl ?_
              refine op_v (v_move rfl) rfl ?_
              refine op_v (v_move rfl) rfl ?_
              first | refine op_v (v_indexA Try.underlying26 sz49 rfl rfl) rfl ?_ | refine op_v (v_indexIA Try.underlying26 sz49 rfl rfl) rfl ?_
              first | refine op_v (v_fieldB 0 Try.underlying49 rfl rfl fz4 rfl) rfl ?_ | refine op_v (v_fieldI 0 Try.underlying49 rfl rfl fz4 rfl (by assumption)) rfl ?_ | refine op_v (v_field Try.underlying49 rfl fz4 rfl rfl) rfl ?_
              first | refine op_v (v_loadI0 ty4 (hatn.mono Imm.leA) rfl rfl rfl) rfl ?_ | refine op_v (v_loadI ty4 (hatn.mono Imm.leA) rfl rfl rfl) rfl ?_
              refine op_v (v_not rfl) rfl ?_
              refine op_call pl96 rfl rfl ((top_does (i := n) (s := !c[n].neg) (hg.mono Imm.leA) (hr37.mono Imm.leA) hdm hd0 (by omega))) Parts.none ?_
              rintro v64 I64 _ hI64 ⟨rfl, rfl⟩
              refine op_v (v_assign rfl) rfl ?_
              refine op_v (v_assign rfl) rfl ?_
              refine ops_nil ?_
              refine post_next ?_
              refine code_ret ?_
              refine post_ret (rs := [.tmp 10, .tmp 11]) rfl (List.Perm.refl _) (.cons (.tmp rfl) (.cons (.tmp rfl) .nil)) (List.nil_sublist _) ?_
              exact ⟨⟨_, _, rfl, .inr ⟨he, .inr ⟨hin, 0, d, ho, .inr ⟨rfl, .inr ⟨hd0, rfl, by unfold mayB; rw [if_neg h51, Int.toNat_natCast, getD_at hnl]⟩⟩⟩⟩⟩, rfl⟩
theorem few11_does {I : Imm} {vg va : Value} {gs : List Sy} {c : List Li} (hg : RepG I vg gs) (ha : RepC I va c) :
    Does Try.prog 45 [vg, va] I [] (fun v I' δ' => (∃ b, v = .bool b ∧ (b = true → FewC c ∧ c.length ≤ 33)) ∧ δ' = []) := by
  obtain ⟨ad, c0, hsh⟩ := RepE.shape ha
  subst hsh
  refine Does.intro Try.func45 rfl Try.ntmps45 rfl fun w0 => ?_
  refine code_seq ?_
  refine code_region ?_
  refine op_v (v_assign rfl) rfl ?_
  refine ops_nil ?_
  refine post_next ?_
  refine code_seq ?_
  refine code_region ?_
  refine op_v (v_move rfl) rfl ?_
  refine op_call pl14 rfl rfl ((FewG_does hg)) Parts.none ?_
  rintro v6 I6 _ hI6 ⟨rfl, rfl⟩
  by_cases h7 : fewG gs = true
  · rw [h7]
    refine op_v (v_move rfl) rfl ?_
    first
      | (refine op_want rfl rfl ?_
         refine op_v (v_move rfl) rfl ?_)
      | (refine op_skip rfl rfl (by simp [undef]) rfl ?_)
    first
      | (refine op_want rfl rfl ?_
         refine op_call pl28 rfl rfl ((Few10_does (ha.mono Imm.leA))) Parts.none ?_
         rintro v9 I9 _ hI9 ⟨⟨b9, rfl, hb9⟩, rfl⟩)
      | (refine op_skip rfl rfl (by simp [undef]) rfl ?_)
    first | refine op_v (v_pickt rfl rfl) rfl ?_ | refine op_v (v_pickf rfl rfl) rfl ?_ | refine op_v (v_pickb rfl rfl rfl) rfl ?_
    by_cases h11 : b9 = true
    · subst h11
      refine op_v (v_move rfl) rfl ?_
      first
        | (refine op_want rfl rfl ?_
           refine op_v (v_move rfl) rfl ?_)
        | (refine op_skip rfl rfl (by simp [undef]) rfl ?_)
      first
        | (refine op_want rfl rfl ?_
           refine op_v (v_len Try.underlying26 rfl) rfl ?_)
        | (refine op_skip rfl rfl (by simp [undef]) rfl ?_)
      by_cases h14 : c.length ≤ 33
      · first
          | (refine op_want rfl rfl ?_
             refine op_v (v_cmpt rfl rfl rfl (by omega)) rfl ?_)
          | (refine op_skip rfl rfl (by simp [undef]) rfl ?_)
        first | refine op_v (v_pickt rfl rfl) rfl ?_ | refine op_v (v_pickf rfl rfl) rfl ?_ | refine op_v (v_pickb rfl rfl rfl) rfl ?_
        refine op_v (v_assign rfl) rfl ?_
        refine ops_nil ?_
        refine post_next ?_
        refine code_ret ?_
        refine post_ret (rs := [.tmp 4]) rfl (List.Perm.refl _) (.cons (.tmp rfl) .nil) (List.nil_sublist _) ?_
        exact ⟨⟨true, rfl, fun _ => ⟨hb9 rfl, h14⟩⟩, rfl⟩
      · first
          | (refine op_want rfl rfl ?_
             refine op_v (v_cmpf rfl rfl rfl (by omega)) rfl ?_)
          | (refine op_skip rfl rfl (by simp [undef]) rfl ?_)
        first | refine op_v (v_pickt rfl rfl) rfl ?_ | refine op_v (v_pickf rfl rfl) rfl ?_ | refine op_v (v_pickb rfl rfl rfl) rfl ?_
        refine op_v (v_assign rfl) rfl ?_
        refine ops_nil ?_
        refine post_next ?_
        refine code_ret ?_
        refine post_ret (rs := [.tmp 4]) rfl (List.Perm.refl _) (.cons (.tmp rfl) .nil) (List.nil_sublist _) ?_
        exact ⟨⟨false, rfl, fun h => by cases h⟩, rfl⟩
    · have h11' : b9 = false := by simpa using h11
      subst h11'
      refine op_v (v_move rfl) rfl ?_
      first
        | (refine op_want rfl rfl ?_
           refine op_v (v_move rfl) rfl ?_)
        | (refine op_skip rfl rfl (by simp [undef]) rfl ?_)
      first
        | (refine op_want rfl rfl ?_
           refine op_v (v_len Try.underlying26 rfl) rfl ?_)
        | (refine op_skip rfl rfl (by simp [undef]) rfl ?_)
      first
        | (refine op_want rfl rfl ?_
           first | refine op_v (v_cmptA rfl rfl rfl) rfl ?_ | refine op_v (v_cmpfA rfl rfl rfl) rfl ?_ | refine op_v (v_cmp rfl rfl rfl) rfl ?_)
        | (refine op_skip rfl rfl (by simp [undef]) rfl ?_)
      first | refine op_v (v_pickt rfl rfl) rfl ?_ | refine op_v (v_pickf rfl rfl) rfl ?_ | refine op_v (v_pickb rfl rfl rfl) rfl ?_
      refine op_v (v_assign rfl) rfl ?_
      refine ops_nil ?_
      refine post_next ?_
      refine code_ret ?_
      refine post_ret (rs := [.tmp 4]) rfl (List.Perm.refl _) (.cons (.tmp rfl) .nil) (List.nil_sublist _) ?_
      exact ⟨⟨false, rfl, fun h => by cases h⟩, rfl⟩
  · have h7' : fewG gs = false := by simpa using h7
    rw [h7']
    refine op_v (v_move rfl) rfl ?_
    first
      | (refine op_want rfl rfl ?_
         refine op_v (v_move rfl) rfl ?_)
      | (refine op_skip rfl rfl (by simp [undef]) rfl ?_)
    first
      | (refine op_want rfl rfl ?_
         refine op_call pl28 rfl rfl ((Few10_does (ha.mono Imm.leA))) Parts.none ?_
         rintro v9 I9 _ hI9 ⟨⟨b9, rfl, hb9⟩, rfl⟩)
      | (refine op_skip rfl rfl (by simp [undef]) rfl ?_)
    first | refine op_v (v_pickt rfl rfl) rfl ?_ | refine op_v (v_pickf rfl rfl) rfl ?_ | refine op_v (v_pickb rfl rfl rfl) rfl ?_
    refine op_v (v_move rfl) rfl ?_
    first
      | (refine op_want rfl rfl ?_
         refine op_v (v_move rfl) rfl ?_)
      | (refine op_skip rfl rfl (by simp [undef]) rfl ?_)
    first
      | (refine op_want rfl rfl ?_
         refine op_v (v_len Try.underlying26 rfl) rfl ?_)
      | (refine op_skip rfl rfl (by simp [undef]) rfl ?_)
    first
      | (refine op_want rfl rfl ?_
         first | refine op_v (v_cmptA rfl rfl rfl) rfl ?_ | refine op_v (v_cmpfA rfl rfl rfl) rfl ?_ | refine op_v (v_cmp rfl rfl rfl) rfl ?_)
      | (refine op_skip rfl rfl (by simp [undef]) rfl ?_)
    first | refine op_v (v_pickt rfl rfl) rfl ?_ | refine op_v (v_pickf rfl rfl) rfl ?_ | refine op_v (v_pickb rfl rfl rfl) rfl ?_
    refine op_v (v_assign rfl) rfl ?_
    refine ops_nil ?_
    refine post_next ?_
    refine code_ret ?_
    refine post_ret (rs := [.tmp 4]) rfl (List.Perm.refl _) (.cons (.tmp rfl) .nil) (List.nil_sublist _) ?_
    exact ⟨⟨false, rfl, fun h => by cases h⟩, rfl⟩
theorem toy11_does (I : Imm) : Does Try.prog 95 [] I [] (fun v I' δ' => RepG I' v gs8 ∧ δ' = []) := by
  refine Does.intro Try.func95 rfl Try.ntmps95 rfl fun w0 => ?_
  refine code_seq ?_
  refine code_region ?_
  refine op_v (v_assign rfl) rfl ?_
  refine ops_nil ?_
  refine post_next ?_
  refine code_seq ?_
  refine code_region ?_
  refine op_v (v_build bl79 rfl rfl) rfl ?_
  refine op_v (v_build bl79 rfl rfl) rfl ?_
  refine op_v (v_build bl79 rfl rfl) rfl ?_
  refine o_buildSlice (xs := [(Go.Operand.tmp 1), (Go.Operand.tmp 2), (Go.Operand.tmp 3)]) Try.underlying22 bs79 rfl rfl rfl rfl rfl (fun b4 => ?_)
  refine OpsJ.freezeRow Del.here ?_
  rintro I4 a4 c4 hI4 hq hc4 hl4 hcells4
  cases hq
  have hg : RepG I4 _ gs8 := RepG.of (gs := gs8) hcells4 rfl rfl hc4 (by decide) (by intro s hs; simp [gs8, truthS] at hs; rcases hs with rfl | rfl | rfl <;> exact ⟨by unfold InR; simp, by unfold InR; simp, by simp [ByteArray.size, maxLen]⟩)
  refine op_v (v_assign rfl) rfl ?_
  refine ops_nil ?_
  refine post_next ?_
  refine code_ret ?_
  refine post_ret (rs := [.tmp 0]) rfl (List.Perm.refl _) (.cons (.tmp rfl) .nil) (List.nil_sublist _) ?_
  exact ⟨hg, rfl⟩
def fa11 : T := .mk 2 [a9]
def A11 : Li := ⟨false, a9, a9⟩
def B11 : Li := ⟨false, fa11, a9⟩
def c11 : List Li := [A11, B11]
theorem c11_e1 : maxE gs8 c11 1 = 0 := by decide +kernel
theorem c11_b1 : maxB gs8 c11 1 true = true := by decide +kernel
theorem c11_e0 : maxE gs8 c11 0 = 0 := by decide +kernel
theorem c11_b0 : maxB gs8 c11 0 false = false := by decide +kernel
theorem c11_s : selE gs8 c11 1 = 0 := by decide +kernel
theorem c11_l : selG gs8 c11 1 = [] := by decide +kernel
theorem c11_m : mayB gs8 c11 c11 1 1 = true := by decide +kernel
theorem c11_chk : chkC gs8 c11 = 0 := by decide +kernel
theorem c11_sm : ∀ x ∈ c11, x.l.size ≤ 500 ∧ x.r.size ≤ 500 := by decide +kernel
theorem outE_nil {t : T} (h : chkT t = 0) (k : sbT [] t = t) : OutE [] t 0 t := .inl ⟨⟨fun i h => by simp at h, h⟩, by rw [k, h], by rw [k, if_pos h]⟩
theorem c11_may : MayH gs8 c11 1 1 [] true 0 := by
  have ha : OutE [] a9 0 a9 := outE_nil (by decide +kernel) (by decide +kernel)
  have hf : OutE [] fa11 0 fa11 := outE_nil (by decide +kernel) (by decide +kernel)
  have h0 : OutL [] A11 0 A11 := ⟨0, a9, ha, .inr ⟨rfl, 0, a9, ha, .inr ⟨rfl, rfl, rfl⟩⟩⟩
  have h1 : OutL [] B11 0 B11 := ⟨0, fa11, hf, .inr ⟨rfl, 0, a9, ha, .inr ⟨rfl, rfl, rfl⟩⟩⟩
  have ho : OutC [] c11 0 c11 := .inr ⟨by decide, .inr ⟨rfl, rfl, fun i h _ => by
    match i, h with
    | 0, _ => exact h0
    | 1, _ => exact h1⟩⟩
  exact .inr ⟨c11_s, .inr ⟨by decide, 0, c11, ho, .inr ⟨rfl, .inr ⟨c11_chk, rfl, c11_m.symm⟩⟩⟩⟩
end Go.Proofs.Ytdbadicpbmndbaa
/- What a row's reading of its arguments says of the heap; plain facts, no condition. -/
set_option linter.unusedVariables false
set_option linter.unusedSimpArgs false
namespace Go.Proofs.Ytdbadicpbmndbaa
open Go Lg Go.ChangeShapes Go.WideShapes Go.ChangeAt Go.RowKit

/-- the whole heap, as what is only read -/
def hImm (w : World) : Imm := fun b => w.heap[b]?
theorem hSat (w : World) : Sat w (hImm w) [] := ⟨fun _ _ h => h, fun x hx => by simp at hx, by simp [blks], fun b hb => by simp [blks] at hb⟩
theorem hCell (w : World) (a : Addr) : (hImm w).cell a = w.cell? a := rfl
theorem wf_in {n : Int} (h : (Lit.int .i64 n).wf = true) : InR n := by
  simp only [Lit.wf, Bool.and_eq_true, decide_eq_true_eq] at h
  have h1 : IntKind.i64.min = -9223372036854775808 := by decide
  have h2 : IntKind.i64.max = 9223372036854775807 := by decide
  unfold InR; omega

variable {H : Type} {enc : TypeId × Value → H} {P : Program} {W : World} {spare : Nat → Bool} {held : Bool}

theorem weights_at {ts : List TypeId} {ds : List (DataW H)} (h : (DataW.weightsEach P ts ds).all (· ≤ reachBytes) = true) : ∀ (j : Nat) (t : TypeId) (d : DataW H), ts[j]? = some t → ds[j]? = some d → (d.weights P t).all (· ≤ reachBytes) = true := by
  induction ts generalizing ds with
  | nil => intro j t d ht; simp at ht
  | cons t0 ts ih =>
    cases ds with
    | nil => intro j t d _ hd; simp at hd
    | cons d0 ds =>
      simp only [DataW.weightsEach, List.all_append, Bool.and_eq_true] at h
      intro j t d ht hd
      cases j with
      | zero => simp at ht hd; subst ht; subst hd; exact h.1
      | succ j => exact ih h.2 j t d (by simpa using ht) (by simpa using hd)
theorem weights_all {e : TypeId} {ds : List (DataW H)} (h : (DataW.weightsAll P e ds).all (· ≤ reachBytes) = true) : ∀ d ∈ ds, (d.weights P e).all (· ≤ reachBytes) = true := by
  induction ds with
  | nil => intro d hd; cases hd
  | cons d0 ds ih =>
    simp only [DataW.weightsAll, List.all_append, Bool.and_eq_true] at h
    intro d hd
    rcases List.mem_cons.1 hd with rfl | hd
    · exact h.1
    · exact ih h.2 d hd

theorem openI {t e : TypeId} {a : Option Addr} {len cap : Nat} {d : DataW H} {ps : List MemPlace} (ht : P.underlying t = some (.slice e)) (he : P.underlying e = some (.int .i64)) (hc : P.cellsOf e = 1) (hB : P.bytesOf e = 8)
    (h : DataW.Trod enc P W 0 spare held t (.slice a len cap) d ps) (hw : (d.weights P t).all (· ≤ reachBytes) = true) : ∃ xs, RInts (hImm W) (.slice a len cap) xs := by
  obtain ⟨fuel, hf⟩ := h
  rcases open_ints ht he hc hf with ⟨hcs, _⟩ | ⟨x, l, c, zs, hcs, _, hl, hm, hz, hx, hcell, hwz⟩
  · simp [Value.cells] at hcs
    obtain ⟨rfl, rfl, rfl⟩ := hcs
    exact ⟨[], RInts.nil _⟩
  · simp [Value.cells] at hcs
    obtain ⟨rfl, rfl, rfl⟩ := hcs
    obtain ⟨hx, _⟩ := Prod.mk.inj hx
    subst hx
    have hzl : len ≤ zs.length := by rw [hz]; split <;> omega
    have hlen : (zs.take len).length = len := by rw [List.length_take]; omega
    simp only [DataW.weights, ht, hB, List.all_cons, Bool.and_eq_true, decide_eq_true_eq] at hw
    have hb : len * 8 ≤ reachBytes := by
      refine Nat.le_trans ?_ hw.1
      simp [lits]; omega
    have hrb : reachBytes = 140737488351232 := rfl
    refine ⟨zs.take len, RInts.of hlen.symm hl (by omega) (fun j v hj => ?_) (fun y hy => wf_in (hwz y (List.mem_of_mem_take hy)))⟩
    have hjl : j < len := by have := (List.getElem?_eq_some_iff.1 hj).1; simp at this; omega
    have hc := hcell j (by omega)
    rw [List.map_take, List.getElem?_take_of_lt hjl] at hj
    have e : v = .int .i64 (zs.getD j 0) := by
      have hjz : j < zs.length := by omega
      simp [hjz] at hj
      simp [hjz, hj]
    subst e
    exact hc

theorem pick_list {α : Type} {n : Nat} {p : Nat → α → Prop} (h : ∀ i, i < n → ∃ a, p i a) : ∃ l : List α, l.length = n ∧ ∀ i (hi : i < l.length), p i l[i] := by
  induction n with
  | zero => exact ⟨[], rfl, fun i hi => by simp at hi⟩
  | succ n ih =>
    obtain ⟨l, h1, h2⟩ := ih fun i hi => h i (by omega)
    obtain ⟨a, ha⟩ := h n (by omega)
    refine ⟨l ++ [a], by simp [h1], fun i hi => ?_⟩
    by_cases hlt : i < l.length
    · rw [List.getElem_append_left hlt]; exact h2 i hlt
    · have e : i = l.length := by simp at hi; omega
      subst e
      simp [h1, ha]

theorem cells_two {a : Addr} {cs : List Value} (h : W.cells? 0 a 2 = some cs) : ∃ u v, cs = [u, v] ∧ W.cell? a = some u ∧ W.cell? (a.add 1) = some v := by
  simp only [World.cells?, Nat.zero_le, if_true] at h
  have hr : List.range 2 = [0, 1] := rfl
  rw [hr] at h
  simp only [List.mapM_cons, List.mapM_nil, Option.bind_eq_bind, Option.bind_eq_some_iff, Option.pure_def, Option.some.injEq] at h
  obtain ⟨u, hu, r, ⟨v, hv, r2, rfl, rfl⟩, rfl⟩ := h
  have ha : a.add 0 = a := by simp [Addr.add]
  rw [ha] at hu
  exact ⟨u, v, rfl, hu, hv⟩

/-- a struct of a number and a row of its own kind -/
structure TreeTy (P : Program) (tT tS tI : TypeId) : Prop where
  str : ∃ fs : Array Field, P.underlying tT = some (.struct fs) ∧ fs.size = 2 ∧ (∃ f0 f1 : Field, fs[0]? = some f0 ∧ fs[1]? = some f1 ∧ f0.type = tI ∧ f0.offset = 0 ∧ f1.type = tS ∧ f1.offset = 1 ∧ fs.toList.map (·.type) = [tI, tS])
  sl : P.underlying tS = some (.slice tT)
  int : P.underlying tI = some (.int .i64)
  cT : P.cellsOf tT = 2
  cS : P.cellsOf tS = 1
  cI : P.cellsOf tI = 1
  bT : P.bytesOf tT = 32

theorem openT {tT tS tI : TypeId} (ty : TreeTy P tT tS tI) : ∀ (fuel : Nat) (cs : List Value) (d : DataW H) (ps : List MemPlace), DataW.trod enc P W 0 spare held fuel tT cs = some (d, ps) → (d.weights P tT).all (· ≤ reachBytes) = true →
    ∃ (s : Value) (t : T), cs = [.int .i64 t.head, s] ∧ RepT (hImm W) (.agg #[.int .i64 t.head, s]) t := by
  intro fuel
  induction fuel using Nat.strongRecOn with
  | _ fuel ih =>
    intro cs d ps h hw
    obtain ⟨fs, hfs, hsz, f0, f1, hf0, hf1, ht0, ho0, ht1, ho1, hts⟩ := ty.str
    obtain ⟨xs, n, rfl, hx, hcl, hxl, hxs⟩ := DataW.trod_struct hfs h
    rw [ty.cT] at hcl
    obtain ⟨u, v, rfl⟩ : ∃ u v, cs = [u, v] := by
      rcases cs with _ | ⟨u, _ | ⟨v, _ | ⟨_, _⟩⟩⟩
      · simp at hcl
      · simp at hcl
      · exact ⟨u, v, rfl⟩
      · simp at hcl
    have h0 := hxs 0 f0 hf0
    have h1 := hxs 1 f1 hf1
    rw [ht0, ho0, ty.cI] at h0
    rw [ht1, ho1, ty.cS] at h1
    simp only [List.drop_zero, List.drop_succ_cons, List.take_succ_cons, List.take_zero] at h0 h1
    rw [hsz] at hxl
    obtain ⟨x0, x1, rfl⟩ : ∃ x0 x1, xs = [x0, x1] := by
      rcases xs with _ | ⟨u, _ | ⟨v, _ | ⟨_, _⟩⟩⟩
      · simp at hxl
      · simp at hxl
      · exact ⟨u, v, rfl⟩
      · simp at hxl
    simp only [List.getElem?_cons_zero, List.getElem?_cons_succ] at h0 h1
    obtain ⟨m, hm, _, hwf⟩ := DataW.trod_int ty.int h0
    simp only [List.cons.injEq, and_true] at hm
    subst hm
    simp only [Prod.mk.injEq] at hx
    obtain ⟨rfl, _⟩ := hx
    simp only [DataW.weights, hfs, hts, List.map_cons, List.map_nil, DataW.weightsEach, List.all_append, Bool.and_eq_true] at hw
    have hw1 := hw.2.1
    rcases DataW.trod_slice ty.sl h1 with ⟨hcs, _⟩ | ⟨a, len, cap, elems, rest, n', rfl, hcs, rfl, _, hl, hm, hlen, hel, hsp, _⟩
    · simp only [List.cons.injEq, and_true] at hcs
      subst hcs
      exact ⟨_, .mk m [], rfl, RepT.mk _ (.mk m []) (wf_in hwf) (RepS.nil _)⟩
    · simp only [List.cons.injEq, and_true] at hcs
      subst hcs
      simp only [DataW.weights, ty.sl, ty.bT, List.all_cons, List.all_append, Bool.and_eq_true, decide_eq_true_eq] at hw1
      obtain ⟨hwl, hwe, _⟩ := hw1
      have hwe' := weights_all hwe
      have hrb : reachBytes = 140737488351232 := rfl
      simp only [List.length_map, hlen] at hwl
      have hall : ∀ i, i < len → ∃ t : T, ∃ s : Option Addr × Nat, At (hImm W) (some a) (i * 2) [.int .i64 t.head, .slice s.1 t.args.length s.2] ∧ RepT (hImm W) (.agg #[.int .i64 t.head, .slice s.1 t.args.length s.2]) t := by
        intro i hi
        have hy := hel i hi
        rw [ty.cT] at hy
        have hie : elems[i]? = some elems[i] := List.getElem?_eq_getElem (by omega)
        rw [hie, Option.bind_eq_some_iff] at hy
        obtain ⟨cs, hcs, htr⟩ := hy
        obtain ⟨u, v, rfl, hu, hv⟩ := cells_two hcs
        obtain ⟨s, t, he, hr⟩ := ih n' (by omega) _ elems[i].1 elems[i].2 htr (hwe' _ (List.mem_map.2 ⟨_, List.getElem_mem (by omega), rfl⟩))
        obtain ⟨sa, sc, hsh, _⟩ := hr.shape
        have hs : s = .slice sa t.args.length sc := by simpa using hsh
        subst hs
        simp only [List.cons.injEq, and_true] at he
        obtain ⟨rfl, rfl⟩ := he
        refine ⟨t, (sa, sc), fun j x hj => ?_, hr⟩
        rcases j with _ | _ | j
        · simp at hj; subst hj; exact hu
        · simp at hj; subst hj
          show W.cell? (a.add (i * 2 + 1)) = _
          rw [← add_add]; exact hv
        · simp at hj
      obtain ⟨ts, htl, hts2⟩ := pick_list hall
      have hss : ∃ ss : Nat → Option Addr × Nat, ∀ i (hi : i < ts.length), At (hImm W) (some a) (i * 2) [.int .i64 ts[i].head, .slice (ss i).1 ts[i].args.length (ss i).2] ∧ RepT (hImm W) (.agg #[.int .i64 ts[i].head, .slice (ss i).1 ts[i].args.length (ss i).2]) ts[i] := by
        classical
        exact ⟨fun i => if hi : i < ts.length then (hts2 i hi).choose else (none, 0), fun i hi => by simp only [dif_pos hi]; exact (hts2 i hi).choose_spec⟩
      obtain ⟨ss, hss⟩ := hss
      subst htl
      exact ⟨_, .mk m ts, rfl, RepT.intro ss (wf_in hwf) hl (by omega) (fun i hi => (hss i hi).1) (fun i hi => (hss i hi).2)⟩

theorem openTv {tT tS tI : TypeId} (ty : TreeTy P tT tS tI) {v : Value} {d : DataW H} {ps : List MemPlace} (h : DataW.Trod enc P W 0 spare held tT v d ps) (hw : (d.weights P tT).all (· ≤ reachBytes) = true) (hv : ∃ cs, v = .agg cs ∧ cs.size = P.cellsOf tT) : ∃ t, RepT (hImm W) v t := by
  obtain ⟨fuel, hf⟩ := h
  obtain ⟨s, t, hc, hr⟩ := openT ty fuel _ d ps hf hw
  obtain ⟨cs, rfl, _⟩ := hv
  have e : cs = #[.int .i64 t.head, s] := by
    apply Array.ext'
    simpa [Value.cells] using hc
  subst e
  exact ⟨t, hr⟩
theorem tr_below {w w' : World} {I I' : Imm} {δ' : List Ent} (h : Tr w I [] w' I' δ') : Below w.heap.size w w' := ⟨h.os, h.tape, h.output, h.size, fun k hk => h.same k hk (by simp [blks])⟩
end Go.Proofs.Ytdbadicpbmndbaa
/- What a row's reading of a signature, and of a name, says of the heap; plain facts, no condition. -/
set_option linter.unusedVariables false
set_option linter.unusedSimpArgs false
namespace Go.Proofs.Ytdbadicpbmndbaa
open Go Lg Go.ChangeShapes Go.WideShapes Go.ChangeAt Go.RowKit
variable {H : Type} {enc : TypeId × Value → H} {P : Program} {W : World} {spare : Nat → Bool} {held : Bool}
theorem cells_all {a : Addr} {n : Nat} {cs : List Value} (h : W.cells? 0 a n = some cs) : cs.length = n ∧ ∀ j v, cs[j]? = some v → W.cell? (a.add j) = some v := by
  simp only [World.cells?, Nat.zero_le, if_true] at h
  have key : ∀ (l : List Nat) (cs : List Value), l.mapM (fun i => W.cell? (a.add i)) = some cs → cs.length = l.length ∧ ∀ (j : Nat) (v : Value), cs[j]? = some v → ∃ i : Nat, l[j]? = some i ∧ W.cell? (a.add i) = some v := by
    intro l
    induction l with
    | nil => intro cs h; simp at h; subst h; exact ⟨rfl, fun j v h => by simp at h⟩
    | cons i l ih =>
      intro cs h
      simp only [List.mapM_cons, Option.bind_eq_bind, Option.bind_eq_some_iff, Option.pure_def, Option.some.injEq] at h
      obtain ⟨u, hu, r, hr, rfl⟩ := h
      obtain ⟨h1, h2⟩ := ih r hr
      refine ⟨by simp [h1], fun j v hj => ?_⟩
      cases j with
      | zero => simp at hj; subst hj; exact ⟨i, rfl, hu⟩
      | succ j => simpa using h2 j v (by simpa using hj)
  obtain ⟨h1, h2⟩ := key _ _ h
  refine ⟨by simpa using h1, fun j v hj => ?_⟩
  obtain ⟨i, hi, hc⟩ := h2 j v hj
  have hlt : j < n := by have := (List.getElem?_eq_some_iff.1 hi).1; simpa using this
  rw [List.getElem?_range hlt] at hi
  cases hi
  exact hc

structure SyLay (P : Program) (tS tG ts ti tb : TypeId) : Prop where
  ty : SyTy P tG ts ti tb
  sl : P.underlying tS = some (.slice tG)
  cG : P.cellsOf tG = 4
  cs : P.cellsOf ts = 1
  ci : P.cellsOf ti = 1
  cb : P.cellsOf tb = 1
  bG : P.bytesOf tG = 40
theorem openSy {tS tG ts ti tb : TypeId} (ly : SyLay P tS tG ts ti tb) {fuel : Nat} {cs : List Value} {x : DataW H × List MemPlace} (h : DataW.trod enc P W 0 spare held fuel tG cs = some x) : ∃ s : Sy, cs = s.cs ∧ s.ok := by
  obtain ⟨f0, f1, f2, f3, hs, ⟨e1, e2, e3⟩, ⟨g1, g2, g3⟩, ⟨h1, h2, h3⟩, k1, k2, k3⟩ := ly.ty.str
  obtain ⟨xs, n, rfl, hx, hcl, hxl, hxs⟩ := DataW.trod_struct hs h
  rw [ly.cG] at hcl
  obtain ⟨a, b, c, d, rfl⟩ : ∃ a b c d, cs = [a, b, c, d] := by
    rcases cs with _ | ⟨a, _ | ⟨b, _ | ⟨c, _ | ⟨d, _ | ⟨_, _⟩⟩⟩⟩⟩ <;> simp at hcl
    exact ⟨a, b, c, d, rfl⟩
  have q0 := hxs 0 f0 rfl
  have q1 := hxs 1 f1 rfl
  have q2 := hxs 2 f2 rfl
  have q3 := hxs 3 f3 rfl
  have hx4 : xs.length = 4 := hxl
  rw [List.getElem?_eq_getElem (by omega), e1, e2, ly.cs] at q0
  rw [List.getElem?_eq_getElem (by omega), g1, g2, ly.ci] at q1
  rw [List.getElem?_eq_getElem (by omega), h1, h2, ly.ci] at q2
  rw [List.getElem?_eq_getElem (by omega), k1, k2, ly.cb] at q3
  obtain ⟨s0, z0, _, w0⟩ := DataW.trod_string ly.ty.us q0
  obtain ⟨s1, z1, _, w1⟩ := DataW.trod_int ly.ty.ui q1
  obtain ⟨s2, z2, _, w2⟩ := DataW.trod_int ly.ty.ui q2
  obtain ⟨s3, z3, _⟩ := DataW.trod_bool ly.ty.ub q3
  simp at z0 z1 z2 z3
  subst z0; subst z1; subst z2; subst z3
  exact ⟨⟨s0, s1, s2, s3⟩, rfl, wf_in w1, wf_in w2, w0⟩
theorem openGv {tS tG ts ti tb : TypeId} (ly : SyLay P tS tG ts ti tb) {v : Value} {d : DataW H} {ps : List MemPlace} (h : DataW.Trod enc P W 0 spare held tS v d ps) (hw : (d.weights P tS).all (· ≤ reachBytes) = true) (hv : ∃ a len cap, v = .slice a len cap) : ∃ gs, RepG (hImm W) v gs := by
  obtain ⟨a0, len0, cap0, rfl⟩ := hv
  obtain ⟨fuel, h1⟩ := h
  rcases DataW.trod_slice ly.sl h1 with ⟨hcs, _⟩ | ⟨a, len, cap, elems, rest, n', rfl, hcs, hd, _, hl, hm, hlen, hel, hsp, _⟩
  · simp [Value.cells] at hcs
    obtain ⟨rfl, rfl, rfl⟩ := hcs
    exact ⟨[], none, 0, [], Nat.le_refl _, by simp, fun i hi => by simp at hi, fun s hs => by cases hs⟩
  · simp [Value.cells] at hcs
    obtain ⟨rfl, rfl, rfl⟩ := hcs
    obtain ⟨rfl, _⟩ := Prod.mk.inj hd
    simp only [DataW.weights, ly.sl, ly.bG, List.all_cons, List.all_append, Bool.and_eq_true, decide_eq_true_eq] at hw
    obtain ⟨hwl, hwe, _⟩ := hw
    have hrb : reachBytes = 140737488351232 := rfl
    simp only [List.length_map, hlen] at hwl
    have hall : ∀ i, i < len0 → ∃ s : Sy, At (hImm W) (some a) (i * 4) s.cs ∧ s.ok := by
      intro i hi
      have hy := hel i hi
      rw [ly.cG] at hy
      have hie : elems[i]? = some elems[i] := List.getElem?_eq_getElem (by omega)
      rw [hie, Option.bind_eq_some_iff] at hy
      obtain ⟨cs, hcs, htr⟩ := hy
      obtain ⟨_, hca⟩ := cells_all hcs
      obtain ⟨s, rfl, hok⟩ := openSy ly htr
      refine ⟨s, fun j v hj => ?_, hok⟩
      have := hca j v hj
      rw [add_add] at this
      exact this
    obtain ⟨gs, hgl, hg2⟩ := pick_list hall
    subst hgl
    exact ⟨gs, some a, cap0, gs, hl, by omega, fun i hi => (hg2 i hi).1, fun s hs => by obtain ⟨i, hi, rfl⟩ := List.getElem_of_mem hs; exact (hg2 i hi).2⟩
end Go.Proofs.Ytdbadicpbmndbaa
